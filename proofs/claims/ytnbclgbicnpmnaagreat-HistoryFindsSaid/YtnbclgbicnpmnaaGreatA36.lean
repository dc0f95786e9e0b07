/- Lemmas of this claim: Lin. Conditions: as named. -/
import Derived.Test.YtnbclgbicnpmnaaGreatA35
namespace Go.Proofs.YtnbclgbicnpmnaaGreat
open Go.RowKit Go.Sort Tryz
set_option maxHeartbeats 0
set_option maxRecDepth 100000
set_option linter.all false
section
theorem Zw5{l:List Kp}(ha:Zxi l)(hz:NZ l){n:Nm}{op client dl now:Int}(ht:V8 (Xg l n.k).st (Xg l n.k).ow (Xg l n.k).dl op client now=0)(h1:1≤op)(h7:op≤7) :
 ((Jt l n.k (Vr op client dl n (Xg l n.k))).length:Int)=l.length+Xn (Xg l n.k).st op:=by
 obtain⟨r,hr⟩:=gnX (Xg l n.k);have hnot:=Zmx hz (k:=n.k);rw[hr]at ht hnot⊢;have hlen:=Ep (k:=n.k) (r:=Vr op client dl n r) (d:=(Vr op client dl n r).st==0) ha;unfold Jt;by_cases hs:r.st=0
 ·have hp:¬ ∃ p∈l,p.1=n.k:=hnot.1 hs;rw[Zk9 hp]at hlen;rcases(show op=1∨op=2∨op=3∨op=4∨op=5∨op=6∨op=7 by omega)with rfl|rfl|rfl|rfl|rfl|rfl|rfl;all_goals simp[V8,Ju,Uw,hs]at ht
  all_goals simp[Vr,J7,hs,Xn]at hlen⊢
  all_goals omega
 have hp:∃ p∈l,p.1=n.k:=Classical.not_not.1 fun h=>hs (hnot.2 h)
 rw[Zjx hp]at hlen;have hb:(r.st==0)=false:=by simp[hs]
 rcases(show op=1∨op=2∨op=3∨op=4∨op=5∨op=6∨op=7 by omega)with rfl|rfl|rfl|rfl|rfl|rfl|rfl;all_goals simp[Vr,J7,hs,hb,Xn]at hlen⊢
 all_goals omega
theorem Ad{op client dl now:Int}(h1:1≤op)(h7:op≤7):∀ {ps:List (Nm×Rc)} {l:List Kp},Zxi l→NZ l→PW ps→(∀ p∈ps,Xg l p.1.k=p.2)→(∀ p∈ps,V8 p.2.st p.2.ow p.2.dl op client now=0) →
 Zxi (Qn op client dl l ps)∧((Qn op client dl l ps).length:Int)=l.length+Pm op (ps.map Prod.snd)
 | [],l,ha,_,_,_,_=>⟨ha,by simp[Qn,Pm]⟩
 | p::ps,l,ha,hz,hp,hg,ht=>by
  obtain⟨h3,h4⟩:=Zj5.1 hp;have hgp:=hg p (by simp);have htp:=ht p (by simp);rw[K7];have hs:=Zw5 (n:=p.1) (client:=client) (dl:=dl) (now:=now) ha hz (by rw[hgp];exact htp) h1 h7;rw[hgp]at hs;obtain⟨i1,i2⟩:=Ad (dl:=dl) h1 h7 (ps:=ps) (l:=Jt l p.1.k (Vr op client dl p.1 p.2)) (Ko ha) (Zoa hz _ _) h4 (fun q hq=>by rw[Wg _ (fun e=>h3 q hq e.symm)];exact hg q (by simp[hq])) (fun q hq=>ht q (by simp[hq]));refine⟨i1,?_⟩;rw[i2,hs,Zj0,Io];omega
theorem Mh(r:Ax):Js r r=true:=by simp[Js]
theorem Ai(cap op client ttl now count:Int)(ps:List (Nm×Rc)):(Wq cap op client ttl now count ps).tick=now:=by
 unfold Wq;split
 ·rfl
 split<;>rfl
def Zkb(m:Wc)(j:Nat):Prop:=(m.st=2∧(j:Int)<m.i)∨(3≤m.st∧m.st≤5)∨(m.st=6∧m.i≤(j:Int))
def Q5(m:Wc)(κ:ByteArray):Prop:=∃ (j:Nat) (n:Nm),m.ns[j]?=some n∧n.k=κ∧Zkb m j
def Zm0(m:Wc)(j:Nat):Prop:=m.st=5∧m.i≤(j:Int)
def Znb(m:Wc)(κ:ByteArray):Prop:=∃ (j:Nat) (n:Nm),m.ns[j]?=some n∧n.k=κ∧Zm0 m j
theorem Znb.locked{m:Wc}{κ:ByteArray}(h:Znb m κ):Q5 m κ:=by
 obtain⟨j,n,h1,h2,h3,h4⟩:=h;exact⟨j,n,h1,h2,.inr (.inl (by omega))⟩
def nzR(r:Rc):Rc:=if r.st=0 then default else r
structure Ov(cl:Int)(x:Shr)(ms:List Wc)(M:List Kp):Prop where
 cli:∀ (k:Nat) m,ms[k]?=some m→m.cl=(k:Int)∧(k:Int)<cl
 mok:∀ m∈ms,MOk m
 req:∀ m∈ms,2≤m.st→m.st≤6→Zuu m
 lck:∀ (k:Nat) m κ,ms[k]?=some m→Q5 m κ→(Xg x.ks κ).st=1∧(Xg x.ks κ).ow=(k:Int)
 asc:Zxi M
 nz:NZ M
 cnt:x.sum=M.length
 rcd:∀ κ,(∀ m∈ms,¬ Znb m κ)→Xg x.rs κ=Xg M κ
 pnd:∀ m∈ms,∀ (j:Nat) n r,m.ns[j]?=some n→m.rs[j]?=some r→Zm0 m j→Xg M n.k=nzR (Vr m.op m.cl (m.ans.tick+m.ttl) n r)
 tck:∀ m∈ms,m.st=5→0≤m.ans.tick∧m.ans.tick≤1073741824
 rd:∀ m∈ms,m.st=3∨m.st=4→∀ (j:Nat) n r,m.ns[j]?=some n→m.rs[j]?=some r→r=Xg M n.k
 clk:0≤x.clock∧x.clock≤1073741824
section
variable {cl:Int} {x:Shr} {ms:List Wc} {M:List Kp}
theorem Wf{α:Type}{l:List α}{k j:Nat}{b c:α}(h:(l.set k b)[j]?=some c):(j=k∧c=b)∨(j≠k∧l[j]?=some c):=by
 rw[Yv]at h;split at h
 ·rename_i e;subst e;split at h
  ·exact .inl ⟨rfl,(Zjy h).symm⟩
  cases h
 rename_i e;exact .inr ⟨fun q=>e q.symm,h⟩
theorem set_self{α:Type}{l:List α}{k:Nat}{a:α}(h:l[k]?=some a):l.set k a=l:=by
 apply Zhd;intro i;rw[Yv];split
 ·rename_i e;subst e;rw[Zjx (Zr.1 h).1,h]
 rfl
theorem Ov.apart(h:Ov cl x ms M){k j:Nat}{m m':Wc}{κ:ByteArray}(hk:ms[k]?=some m)(hj:ms[j]?=some m')(h1:Q5 m κ)(h2:Q5 m' κ):k=j:=by
 have a:=(h.lck k m κ hk h1).2;have b:=(h.lck j m' κ hj h2).2;omega
theorem Zkp{l:List Nm}(h:srt l=true){i j:Nat}{a b:Nm}(hi:l[i]?=some a)(hj:l[j]?=some b)(e:a.k=b.k):i=j:=by
 have hp:=Zxr h;obtain⟨i1,rfl⟩:=Zr.1 hi;obtain⟨j1,rfl⟩:=Zr.1 hj;rcases Zi2 i j with q|q|q
 ·have:=Zjh.1 hp i j i1 j1 q;unfold Jk at this;rw[e]at this;exact absurd this (Zhz _)
 ·exact q
 have:=Zjh.1 hp j i j1 i1 q;unfold Jk at this;rw[e]at this;exact absurd this (Zhz _)
theorem Rv{m:Wc}{j:Nat}{n:Nm}(hs:3≤m.st∧m.st≤5)(hn:m.ns[j]?=some n):Q5 m n.k:=⟨j,n,hn,rfl,.inr (.inl hs)⟩
theorem Ov.step(h:Ov cl x ms M){k:Nat}{m m':Wc}{x':Shr}{M':List Kp}(hk:ms[k]?=some m)(c:m'.cl=m.cl)(ok:MOk m')(rq:2≤m'.st→m'.st≤6→Zuu m')
 (lk:∀ κ,Q5 m' κ→(Xg x'.ks κ).st=1∧(Xg x'.ks κ).ow=(k:Int))
 (lo:∀ (j:Nat) mj κ,j≠k→ms[j]?=some mj→Q5 mj κ→Xg x'.ks κ=Xg x.ks κ)
 (a:Zxi M') (z:NZ M') (cn:x'.sum=M'.length)
 (rc:∀ κ,¬ Znb m' κ→(∀ (j:Nat) mj,j≠k→ms[j]?=some mj→¬ Znb mj κ)→Xg x'.rs κ=Xg M' κ)
 (pn:∀ (j:Nat) n r,m'.ns[j]?=some n→m'.rs[j]?=some r→Zm0 m' j→Xg M' n.k=nzR (Vr m'.op m'.cl (m'.ans.tick+m'.ttl) n r))
 (po:∀ (j:Nat) mj κ,j≠k→ms[j]?=some mj→Q5 mj κ→Xg M' κ=Xg M κ)
 (tk:m'.st=5→0≤m'.ans.tick∧m'.ans.tick≤1073741824)
 (rdm:m'.st=3∨m'.st=4→∀ (j:Nat) n r,m'.ns[j]?=some n→m'.rs[j]?=some r→r=Xg M' n.k)
 (ck:0≤x'.clock∧x'.clock≤1073741824):Ov cl x' (ms.set k m') M':=by
 have mem:∀ q∈ms.set k m',q=m'∨∃ j,j≠k∧ms[j]?=some q:=fun q hq=>by
  obtain⟨j,hj⟩:=Zjr hq;rcases Wf hj with⟨_,e⟩ | ⟨e,h1⟩
  ·exact .inl e
  exact .inr ⟨j,e,h1⟩
 have mem':m'∈ms.set k m':=Zy (Zc (Zr.1 hk).1);refine⟨?_,?_,?_,?_,a,z,cn,?_,?_,?_,?_,ck⟩
 ·intro j q hq;rcases Wf hq with⟨e,e2⟩ | ⟨_,h1⟩
  ·rw[e2,e,c];exact h.cli k m hk
  exact h.cli j q h1
 ·intro q hq;rcases mem q hq with rfl | ⟨j,_,h1⟩
  ·exact ok
  exact h.mok q (Zy h1)
 ·intro q hq;rcases mem q hq with rfl | ⟨j,_,h1⟩
  ·exact rq
  exact h.req q (Zy h1)
 ·intro j q κ hq hl;rcases Wf hq with⟨e,e2⟩ | ⟨e,h1⟩
  ·rw[e2]at hl;rw[e];exact lk κ hl
  rw[lo j q κ e h1 hl];exact h.lck j q κ h1 hl
 ·intro κ hp;exact rc κ (hp m' mem') fun j mj hj h1=>hp mj (Zy (by rw[Zb (fun e=>hj e.symm)];exact h1))
 ·intro q hq j n r hn hr hp;rcases mem q hq with rfl | ⟨i,e,h1⟩
  ·exact pn j n r hn hr hp
  rw[po i q n.k e h1 (Znb.locked ⟨j,n,hn,rfl,hp⟩)];exact h.pnd q (Zy h1) j n r hn hr hp
 ·intro q hq;rcases mem q hq with rfl | ⟨j,_,h1⟩
  ·exact tk
  exact h.tck q (Zy h1)
 intro q hq hs j n r hn hr;rcases mem q hq with rfl | ⟨i,e,h1⟩
 ·exact rdm hs j n r hn hr
 rw[po i q n.k e h1 (Rv (by omega) hn)];exact h.rd q (Zy h1) hs j n r hn hr
theorem Qi{m:Wc}{l:Nat}{nx:Int}:(m.i+1=l∧Qb m l nx={m with i:=0,st:=nx})∨(m.i+1≠l∧Qb m l nx={m with i:=m.i+1}):=by
 unfold Qb;by_cases h:m.i+1=l
 ·exact .inl ⟨h,Zjx h⟩
 exact .inr ⟨h,Zk9 h⟩
theorem Ov.calm(h:Ov cl x ms M){k:Nat}{m m':Wc}{x':Shr}(hk:ms[k]?=some m)(c:m'.cl=m.cl)(ok:MOk m')(rq:2≤m'.st→m'.st≤6→Zuu m')
 (lk:∀ κ,Q5 m' κ→(Xg x'.ks κ).st=1∧(Xg x'.ks κ).ow=(k:Int))
 (lo:∀ (j:Nat) mj κ,j≠k→ms[j]?=some mj→Q5 mj κ→Xg x'.ks κ=Xg x.ks κ)
 (er:x'.rs=x.rs) (es:x'.sum=x.sum) (ec:x'.clock=x.clock) (n5:m'.st≠5) (o5:m.st≠5)
 (rdm:m'.st=3∨m'.st=4→∀ (j:Nat) n r,m'.ns[j]?=some n→m'.rs[j]?=some r→r=Xg M n.k):Ov cl x' (ms.set k m') M:=by
 refine h.step hk c ok rq lk lo h.asc h.nz (by rw[es];exact h.cnt) ?_ (fun j n r _ _ hp=>absurd hp.1 n5) (fun _ _ _ _ _ _=>rfl) (fun e=>absurd e n5) rdm (by rw[ec];exact h.clk);intro κ _ hp;rw[er];refine h.rcd κ fun q hq=>?_
 obtain⟨j,hj⟩:=Zjr hq;by_cases e:j=k
 ·subst e;rw[hk]at hj;obtain rfl:=Zjy hj;rintro⟨_,_,_,_,q,_⟩;exact o5 q
 exact hp j q e hj
theorem Ov.reads(h:Ov cl x ms M){m:Wc}(hmem:m∈ms)(e1:m.st=4):m.ns.zip m.rs=Vy M m.ns∧(Vy M m.ns).map Prod.snd=m.rs:=by
 have hl:=(h.mok m hmem).r4 (by omega) (by omega);have he:m.ns.zip m.rs=Vy M m.ns:=by
  have hg:=h.rd m hmem (.inr e1);unfold Vy;apply Zfy
  ·simp;omega
  intro j h1 h2;have j1:j<m.ns.length:=by simp at h2;exact h2
  have j2:j<m.rs.length:=by omega
  rw[List.getElem_zip,Zfz];have:=hg j m.ns[j] m.rs[j] (Zz _) (Zz _);rw[this]
 refine⟨he,?_⟩;rw[← he,List.map_snd_zip (by omega)]
theorem Ov.proper(h:Ov cl x ms M){k:Nat}{m:Wc}(hk:ms[k]?=some m)(e1:m.st=4):Q1 cl m.cl m.op m.ttl x.clock m.ns=true:=by
 have hrq:=h.req m (Zy hk) (by omega) (by omega);obtain⟨a,b⟩:=h.cli k m hk;exact Yf ⟨by omega,by omega,hrq.o0,hrq.o1,h.clk.1,h.clk.2,hrq.t1,hrq.t0,hrq.l0,hrq.l1,hrq.q,hrq.srt,hrq.good⟩
theorem Ov.done(h:Ov cl x ms M){k:Nat}{m:Wc}(hk:ms[k]?=some m)(e1:m.st=4)(h0:(doR cl x.cp M m.cl m.op m.ttl x.clock m.ns).e=0) :
 Zxi (doL cl x.cp M m.cl m.op m.ttl x.clock m.ns)∧((doL cl x.cp M m.cl m.op m.ttl x.clock m.ns).length:Int)=M.length+Pm m.op m.rs ∧
 (∀ n∈m.ns,Xg (doL cl x.cp M m.cl m.op m.ttl x.clock m.ns) n.k=nzR (Vr m.op m.cl (x.clock+m.ttl) n (Xg M n.k)))∧∀ κ,(¬ ∃ n∈m.ns,n.k=κ)→Xg (doL cl x.cp M m.cl m.op m.ttl x.clock m.ns) κ=Xg M κ:=by
 have hmem:=Zy hk;have hrq:=h.req m hmem (by omega) (by omega);obtain⟨_,hsn⟩:=h.reads hmem e1;have hp:=h.proper hk e1;unfold doR at h0;rw[Zjx hp]at h0;unfold doL;rw[Zjx ⟨hp,h0⟩];have hpw:=Zoo (l:=M) hrq.srt;have hmw:∀ p∈Vy M m.ns,Xg M p.1.k=p.2:=fun p hp=>by
  obtain⟨n,_,rfl⟩:=Zjs.1 hp;rfl
 obtain⟨g1,g2⟩:=Ad (dl:=x.clock+m.ttl) (client:=m.cl) (now:=x.clock) hrq.o0 hrq.o1 h.asc h.nz hpw hmw (O5 (Zq9 h0));rw[hsn]at g2;refine⟨g1,g2,fun n hn=>?_,fun κ hκ=>Q6 fun p hp=>?_⟩
 ·have hm:(n,Xg M n.k)∈Vy M m.ns:=Zjs.2 ⟨n,hn,rfl⟩;rw[Uk hpw _ hm];rfl
 obtain⟨n,hn,rfl⟩:=Zjs.1 hp;exact fun e=>hκ ⟨n,hn,e⟩
theorem Ov.calmR(h:Ov cl x ms M){k:Nat}{m:Wc}{κ:ByteArray}(hk:ms[k]?=some m)(o5:m.st≠5)(ho:∀ (j:Nat) mj,j≠k→ms[j]?=some mj→¬ Znb mj κ):Xg x.rs κ=Xg M κ:=by
 refine h.rcd κ fun q hq=>?_
 obtain⟨j,hj⟩:=Zjr hq;by_cases e:j=k
 ·subst e;rw[hk]at hj;obtain rfl:=Zjy hj;rintro⟨_,_,_,_,q,_⟩;exact o5 q
 exact ho j q e hj
theorem Ov.any(h:Ov cl x ms M){cp:Int}{k:Nat}{m m':Wc}{x':Shr}{s:Int}(hk:ms[k]?=some m)(ok:MOk m')(hcp:x.cp=cp)(hr:Kc m x s m' x') :
 ∃ M',Ov cl x' (ms.set k m') M'∧(m.st≠4→M'=M) ∧
  (m.st=4→M'=doL cl cp M m.cl m.op m.ttl x.clock m.ns∧m'.ans=doR cl cp M m.cl m.op m.ttl x.clock m.ns):=by
 have hmem:=Zy hk;have k0:=h.mok m hmem;have hcl:=(h.cli k m hk).1;have hlt:=(h.cli k m hk).2;subst hcp;cases hr with
 | bad _ e1 e2 ec ei en ea =>
  refine⟨M,h.calm hk ec ok (fun _ _=>by omega) ?_ (fun _ _ _ _ _ _=>rfl) rfl rfl rfl (by omega) (by omega) (fun e=>by omega),fun _=>rfl,fun e=>by omega⟩;rintro κ ⟨j,n,hn,_⟩;rw[en]at hn;simp at hn
 | req _ e1 e2 ec ei er =>
  refine⟨M,h.calm hk ec ok (fun _ _=>er) ?_ (fun _ _ _ _ _ _=>rfl) rfl rfl rfl (by omega) (by omega) (fun e=>by omega),fun _=>rfl,fun e=>by omega⟩;rintro κ ⟨j,n,hn,e,hj⟩;have h0:=(k0.e2 (by omega) (by omega)).2 e1;exfalso;rcases hj with⟨_,q⟩ | ⟨q,_⟩ | ⟨q,_⟩<;>omega
 | idle e1=>exact⟨M,by rw[set_self hk];exact h,fun _=>rfl,fun e=>by omega⟩
 | block n c e1=>exact⟨M,by rw[set_self hk];exact h,fun _=>rfl,fun e=>by omega⟩
 | lock n c v e1 ei hn hfree =>
  have hrq:=h.req m hmem (by omega) (by omega);refine⟨M,h.calm hk (by rcases Qi (m:=m) (l:=m.ns.length) (nx:=3)with⟨_,e⟩ | ⟨_,e⟩<;>rw[e]) ok (fun _ _=>?_) ?_ ?_ rfl rfl rfl ?_ (by omega) ?_,fun _=>rfl,fun e=>by omega⟩
  ·rcases Qi (m:=m) (l:=m.ns.length) (nx:=3)with⟨_,e⟩ | ⟨_,e⟩<;>rw[e]<;>exact⟨hrq.o0,hrq.o1,hrq.t1,hrq.t0,hrq.l0,hrq.l1,hrq.q,hrq.srt,hrq.good⟩
  ·intro κ hl;simp only;by_cases hκ:κ=n.k
   ·subst hκ;rw[Jy,Zk9 (by simp)];exact⟨rfl,hcl⟩
   rw[Wg _ hκ];refine h.lck k m κ hk ?_;obtain⟨j,n',hn',eκ,hj⟩:=hl;rcases Qi (m:=m) (l:=m.ns.length) (nx:=3)with⟨q,e⟩ | ⟨_,e⟩
   ·rw[e]at hn' hj;refine⟨j,n',hn',eκ,.inl ⟨e1,?_⟩⟩;have:=(Zr.1 hn').1;rcases Zis j c with g|g
    ·omega
    exfalso;have:j=c:=by simp only at this;omega
    subst this;rw[hn]at hn';obtain rfl:=Zjy hn';exact hκ eκ.symm
   rw[e]at hn' hj;refine⟨j,n',hn',eκ,.inl ⟨e1,?_⟩⟩;rcases Zis j c with g|g
   ·omega
   exfalso;have hj2:(j:Int)<m.i+1:=by
    rcases hj with⟨_,q⟩ | ⟨q,_⟩ | ⟨q,_⟩
    ·exact q
    ·simp only at q;omega
    simp only at q;omega
   have:j=c:=by omega
   subst this;rw[hn]at hn';obtain rfl:=Zjy hn';exact hκ eκ.symm
  ·intro j mj κ hj hmj hl;refine Wg _ (fun e=>?_) _;subst e;obtain⟨a,b⟩:=h.lck j mj _ hmj hl;have:=hfree a (by omega);omega
  ·rcases Qi (m:=m) (l:=m.ns.length) (nx:=3)with⟨_,e⟩ | ⟨_,e⟩<;>rw[e]<;>simp only<;>omega
  intro hs j n' r hn' hr';have:m.rs=[]:=(k0.e2 (by omega) (by omega)).1;rcases Qi (m:=m) (l:=m.ns.length) (nx:=3)with⟨_,e⟩ | ⟨_,e⟩<;>rw[e]at hr'<;>simp[this]at hr'
 | read n c v e1 ei hn =>
  have hrq:=h.req m hmem (by omega) (by omega);have hR:∃ R,Xg x.rs n.k=R:=⟨_,rfl⟩;obtain⟨R,hR⟩:=hR;have hRM:R=Xg M n.k:=by
   rw[← hR];refine h.rcd n.k fun q hq hp=>?_
   obtain⟨j,hj⟩:=Zjr hq;have:=h.apart hk hj (Rv (by omega) hn) hp.locked;subst this;rw[hk]at hj;obtain rfl:=Zjy hj;obtain⟨_,_,_,_,q,_⟩:=hp;omega
  have h3:=k0.r3 e1;rw[hR]at ok⊢;obtain⟨L,hL⟩:=gnX (m.rs++[R]);have hget:∀ (j:Nat) n' r,m.ns[j]?=some n'→L[j]?=some r→r=Xg M n'.k:=by
   intro j n' r hn' hr';rw[← hL]at hr';rcases Zis j m.rs.length with g|g
   ·rw[Ze g]at hr';exact h.rd m hmem (.inl e1) j n' r hn' hr'
   rw[Zd g]at hr';have:j=c:=by
    have:=(Zr.1 hr').1;simp only[Zj3]at this;omega
   subst this;rw[show j-m.rs.length=0 by omega]at hr';obtain rfl:=Zjy hr';rw[hn]at hn';obtain rfl:=Zjy hn';exact hRM
  rw[hL]at ok⊢;refine⟨M,h.calm hk ?_ ok (fun _ _=>?_) ?_ (fun _ _ _ _ _ _=>rfl) rfl rfl rfl ?_ (by omega) ?_,fun _=>rfl,fun e=>by omega⟩
  ·rcases Qi (m:={m with rv:=v,rs:=L}) (l:=m.ns.length) (nx:=4)with⟨_,e⟩ | ⟨_,e⟩<;>rw[e]
  ·rcases Qi (m:={m with rv:=v,rs:=L}) (l:=m.ns.length) (nx:=4)with⟨_,e⟩ | ⟨_,e⟩<;>rw[e]<;>exact⟨hrq.o0,hrq.o1,hrq.t1,hrq.t0,hrq.l0,hrq.l1,hrq.q,hrq.srt,hrq.good⟩
  ·intro κ hl;obtain⟨j,n',hn',eκ,hj⟩:=hl;refine h.lck k m κ hk ⟨j,n',?_,eκ,.inr (.inl (by omega))⟩;rcases Qi (m:={m with rv:=v,rs:=L}) (l:=m.ns.length) (nx:=4)with⟨_,e⟩ | ⟨_,e⟩<;>rw[e]at hn'<;>exact hn'
  ·rcases Qi (m:={m with rv:=v,rs:=L}) (l:=m.ns.length) (nx:=4)with⟨_,e⟩ | ⟨_,e⟩<;>rw[e]<;>simp only<;>omega
  intro _ j n' r hn' hr';rcases Qi (m:={m with rv:=v,rs:=L}) (l:=m.ns.length) (nx:=4)with⟨_,e⟩ | ⟨_,e⟩<;>rw[e]at hn' hr'<;>exact hget j n' r hn' hr'
 | stay e1 he =>
  have hrq:=h.req m hmem (by omega) (by omega);obtain⟨hz,_⟩:=h.reads hmem e1;have hp:=h.proper hk e1;have hd:Wq x.cp m.op m.cl m.ttl x.clock x.sum (m.ns.zip m.rs)=doR cl x.cp M m.cl m.op m.ttl x.clock m.ns:=by
   unfold doR;rw[Zjx hp,hz,h.cnt]
  rw[hd]at he ok⊢;have hi:=k0.i4 e1;obtain⟨M',hM'⟩:∃ M',doL cl x.cp M m.cl m.op m.ttl x.clock m.ns=M':=⟨_,rfl⟩;have facts:Zxi M'∧M'.length=M.length∧∀ κ,Xg M' κ=Xg M κ:=by
   by_cases h0:(doR cl x.cp M m.cl m.op m.ttl x.clock m.ns).e=0
   ·have h7:m.op=7:=he.resolve_left fun q=>q h0
    obtain⟨f1,f2,f3,f4⟩:=h.done hk e1 h0;rw[hM']at f1 f2 f3 f4;have f5:Pm m.op m.rs=0:=by
     rw[h7];have:∀ rs:List Rc,Pm 7 rs=0:=fun rs=>by
      induction rs with
      | nil=>rfl
      | cons r rs ih=>rw[Io,ih];simp[Xn]
     exact this _
    refine⟨f1,by omega,fun κ=>?_⟩;by_cases hκ:∃ n∈m.ns,n.k=κ
    ·obtain⟨n,hn,rfl⟩:=hκ;rw[f3 n hn,h7];unfold nzR;have:Vr 7 m.cl (x.clock+m.ttl) n (Xg M n.k)=Xg M n.k:=by simp[Vr,J7,Kq,Kr,J5]
     rw[this];split
     ·rename_i q;exact(Zq2 h.nz q).symm
     rfl
    exact f4 κ hκ
   rw[Zl7 h0]at hM';subst hM';exact⟨h.asc,rfl,fun _=>rfl⟩
  obtain⟨f1,f2,f3⟩:=facts;have nz':NZ M':=hM'▸Zky h.nz;refine⟨M',h.step hk rfl ok (fun _ _=>⟨hrq.o0,hrq.o1,hrq.t1,hrq.t0,hrq.l0,hrq.l1,hrq.q,hrq.srt,hrq.good⟩) ?_ (fun _ _ _ _ _ _=>rfl) f1 nz' (by rw[h.cnt,f2]) ?_ (fun j n r _ _ hp=>absurd hp.1 (by simp)) (fun _ _ _ _ _ _=>f3 _) (fun q=>by simp at q) (fun q=>by simp at q) h.clk,fun e=>absurd e1 e,fun _=>⟨hM'.symm,rfl⟩⟩
  ·rintro κ ⟨j,n,hn,eκ,_⟩;exact h.lck k m κ hk ⟨j,n,hn,eκ,.inr (.inl (by omega))⟩
  intro κ _ ho;rw[f3];exact h.calmR hk (by omega) ho
 | go e1 he hq =>
  have hrq:=h.req m hmem (by omega) (by omega);obtain⟨hz,hsn⟩:=h.reads hmem e1;have hp:=h.proper hk e1;have hd:Wq x.cp m.op m.cl m.ttl x.clock x.sum (m.ns.zip m.rs)=doR cl x.cp M m.cl m.op m.ttl x.clock m.ns:=by
   unfold doR;rw[Zjx hp,hz,h.cnt]
  have htick:(doR cl x.cp M m.cl m.op m.ttl x.clock m.ns).tick=x.clock:=by rw[← hd];exact Ai _ _ _ _ _ _ _
  rw[hd]at he ok⊢;have hi:=k0.i4 e1;obtain⟨f1,f2,f3,f4⟩:=h.done hk e1 he;obtain⟨M',hM'⟩:∃ M',doL cl x.cp M m.cl m.op m.ttl x.clock m.ns=M':=⟨_,rfl⟩;have nz':NZ M':=hM'▸Zky h.nz;rw[hM']at f1 f2 f3 f4;refine⟨M',h.step hk rfl ok (fun _ _=>⟨hrq.o0,hrq.o1,hrq.t1,hrq.t0,hrq.l0,hrq.l1,hrq.q,hrq.srt,hrq.good⟩) ?_ (fun _ _ _ _ _ _=>rfl) f1 nz' (by simp only;rw[h.cnt,f2]) ?_ ?_ ?_ (fun _=>by simp only;rw[htick];exact h.clk) (fun q=>by simp at q) h.clk,fun e=>absurd e1 e,fun _=>⟨hM'.symm,rfl⟩⟩
  ·rintro κ ⟨j,n,hn,eκ,_⟩;exact h.lck k m κ hk ⟨j,n,hn,eκ,.inr (.inl (by omega))⟩
  ·intro κ hp' ho;have hκ:¬ ∃ n∈m.ns,n.k=κ:=by
    rintro⟨n,hn,eκ⟩;obtain⟨j,hj⟩:=Zjr hn;exact hp' ⟨j,n,hj,eκ,rfl,by simp only;omega⟩
   rw[f4 κ hκ];exact h.calmR hk (by omega) ho
  ·intro j n r hn hr _;have hn':m.ns[j]?=some n:=hn;have hr':m.rs[j]?=some r:=hr;have:=h.rd m hmem (.inr e1) j n r hn' hr';simp only;rw[f3 n (Zy hn'),htick,this]
  intro j mj κ hj hmj hl;refine f4 κ ?_;rintro⟨n,hn,rfl⟩;obtain⟨i,hi'⟩:=Zjr hn;exact hj (h.apart hmj hk hl (Rv (by omega) hi'))
 | write n r c D v e1 ei hn hr hD =>
  have hrq:=h.req m hmem (by omega) (by omega);have htk:=h.tck m hmem e1;have hD':D=m.ans.tick+m.ttl:=by
   cases ht:Wz m.op
   ·have:=hrq.t0 ht;exact hD (by omega) (by omega)
   have:=hrq.t1 ht;exact hD (by omega) (by omega)
  subst hD';clear hD;have hpn:=h.pnd m hmem c n r hn hr ⟨e1,by omega⟩;have es:=fun nx=>Qi (m:=m) (l:=m.ns.length) (nx:=nx)
  refine⟨M,h.step hk ?_ ok (fun _ _=>?_) ?_ (fun _ _ _ _ _ _=>rfl) h.asc h.nz h.cnt ?_ ?_ (fun _ _ _ _ _ _=>rfl) (fun hs=>?_) ?_ h.clk,fun _=>rfl,fun e=>by omega⟩
  ·rcases es 6 with⟨_,e⟩ | ⟨_,e⟩<;>rw[e]
  ·rcases es 6 with⟨_,e⟩ | ⟨_,e⟩<;>rw[e]<;>exact⟨hrq.o0,hrq.o1,hrq.t1,hrq.t0,hrq.l0,hrq.l1,hrq.q,hrq.srt,hrq.good⟩
  ·intro κ hl;obtain⟨j,n',hn',eκ,hj⟩:=hl;refine h.lck k m κ hk ⟨j,n',?_,eκ,.inr (.inl (by omega))⟩;rcases es 6 with⟨_,e⟩ | ⟨_,e⟩<;>rw[e]at hn'<;>exact hn'
  ·intro κ hp ho;simp only;by_cases hκ:κ=n.k
   ·subst hκ;rw[Jy,hpn];rfl
   rw[Wg _ hκ];refine h.rcd κ fun q hq=>?_
   obtain⟨j,hj⟩:=Zjr hq;by_cases e:j=k
   ·subst e;rw[hk]at hj;obtain rfl:=Zjy hj;rintro⟨j',n',hn',eκ,_,hge⟩;have hne:j'≠c:=by
     rintro rfl;rw[hn]at hn';obtain rfl:=Zjy hn';exact hκ eκ.symm
    have hlt':=(Zr.1 hn').1;rcases es 6 with⟨q,e⟩ | ⟨q,e⟩
    ·omega
    refine hp ⟨j',n',?_,eκ,?_⟩
    ·rw[e];exact hn'
    rw[e];exact⟨e1,by simp only;omega⟩
   exact ho j q e hj
  ·intro j n' r' hn' hr' hp;rcases es 6 with⟨q,e⟩ | ⟨q,e⟩
   ·rw[e]at hp;obtain⟨q,_⟩:=hp;simp only at q;omega
   rw[e]at hn' hr' hp⊢;exact h.pnd m hmem j n' r' hn' hr' ⟨e1,by have:=hp.2;simp only at this;omega⟩
  ·rcases es 6 with⟨q,e⟩ | ⟨q,e⟩<;>rw[e]<;>exact htk
  intro hs;exfalso;rcases es 6 with⟨q,e⟩ | ⟨q,e⟩<;>rw[e]at hs<;>simp only at hs<;>omega
 | free n c v e1 ei hn =>
  have hrq:=h.req m hmem (by omega) (by omega);have es:=fun nx=>Qi (m:=m) (l:=m.ns.length) (nx:=nx)
  have hown:Q5 m n.k:=⟨c,n,hn,rfl,.inr (.inr ⟨e1,by omega⟩)⟩;refine⟨M,h.calm hk ?_ ok (fun _ _=>?_) ?_ ?_ rfl rfl rfl ?_ (by omega) ?_,fun _=>rfl,fun e=>by omega⟩
  ·rcases es 7 with⟨_,e⟩ | ⟨_,e⟩<;>rw[e]
  ·rcases es 7 with⟨_,e⟩ | ⟨_,e⟩<;>rw[e]<;>exact⟨hrq.o0,hrq.o1,hrq.t1,hrq.t0,hrq.l0,hrq.l1,hrq.q,hrq.srt,hrq.good⟩
  ·intro κ hl;obtain⟨j,n',hn',eκ,hj⟩:=hl;rcases es 7 with⟨q,e⟩ | ⟨q,e⟩
   ·rw[e]at hj;exfalso;rcases hj with⟨q,_⟩ | ⟨_,q⟩ | ⟨q,_⟩<;>simp only at q<;>omega
   rw[e]at hn' hj;have hj2:m.i+1≤(j:Int):=by
    rcases hj with⟨q,_⟩ | ⟨q,q'⟩ | ⟨_,q⟩
    ·simp only at q;omega
    ·simp only at q q';omega
    exact q
   have hκ:κ≠n.k:=by
    intro e2;have:=Zkp hrq.srt hn hn' (by rw[eκ,e2]);omega
   simp only;rw[Wg _ hκ];exact h.lck k m κ hk ⟨j,n',hn',eκ,.inr (.inr ⟨e1,by omega⟩)⟩
  ·intro j mj κ hj hmj hl;refine Wg _ (fun e=>?_) _;subst e;exact hj (h.apart hmj hk hl hown)
  ·rcases es 7 with⟨_,e⟩ | ⟨_,e⟩<;>rw[e]<;>simp only<;>omega
  intro hs;exfalso;rcases es 7 with⟨q,e⟩ | ⟨q,e⟩<;>rw[e]at hs<;>simp only at hs<;>omega
 | reply e1 =>
  refine⟨M,h.calm hk rfl ok (fun q _=>by simp at q) ?_ (fun _ _ _ _ _ _=>rfl) rfl rfl rfl (by simp) (by omega) (fun e=>by simp at e),fun _=>rfl,fun e=>by omega⟩;rintro κ ⟨j,n,hn,_,hj⟩;exfalso;rcases hj with⟨q,_⟩ | ⟨q,_⟩ | ⟨q,_⟩<;>simp at q
end
def I7(o o':Opn):Prop:=o'.cl=o.cl∧o'.op=o.op∧o'.ttl=o.ttl∧o'.ns=o.ns∧o'.bad=o.bad∧o'.res=o.res
theorem I7.refl(o:Opn):I7 o o:=⟨rfl,rfl,rfl,rfl,rfl,rfl⟩
theorem I7.step{o o':Opn}(h:I7 o o')(cl cp:Int)(st:RSt):Vm cl cp st o'=Vm cl cp st o:=by
 obtain⟨a,b,c,d,e,f⟩:=h;unfold Vm Jm Jq Qz;rw[a,b,c,d,e,f]
inductive R9 (cl cp:Int) (os:List Opn):List Nat→RSt→Prop
 | nil:R9 cl cp os [] ([],0,true)
 | snoc {l:List Nat} {st:RSt} (i:Nat) (o:Opn):R9 cl cp os l st→os[i]?=some o→(Vm cl cp st o).1=0→R9 cl cp os (l++[i]) (Vm cl cp st o).2
theorem R9.congr{cl cp:Int}{os os':List Opn}{l:List Nat}{st:RSt}(h:R9 cl cp os l st)(hs:∀ i∈l,∀ o,os[i]?=some o→∃ o',os'[i]?=some o'∧I7 o o'):R9 cl cp os' l st:=by
 induction h with
 | nil=>exact .nil
 | snoc i o h1 h2 h3 ih =>
  obtain⟨o',e1,e2⟩:=hs i (by simp) o h2;have:=(ih fun j hj=>hs j (by simp[hj])).snoc i o' e1 (by rw[e2.step];exact h3)
  rwa [e2.step]at this
theorem Iy{cl cp:Int}{os:List Opn}{i:Nat}{o:Opn}(ho:os[i]?=some o):∀ {l:List Nat} {s:RSt},Aa cl cp os l s=none→(∀ j∈l,∃ o,os[j]?=some o)→(Vm cl cp (stO cl cp os l s) o).1=0→Aa cl cp os (l++[i]) s=none
 | [],s,_,_,h=>by
  rw[Zo,Aa,ho];simp only[stO,List.foldl_nil]at h;simp[h,Aa]
 | j::l,s,h1,hm,h=>by
  obtain⟨q,hq⟩:=hm j (by simp);rw[Aa,hq]at h1;rw[List.cons_append,Aa,hq];simp only at h1⊢;split at h1
  ·simp at h1
  rename_i h2;rw[Zk9 h2];refine Iy ho h1 (fun x hx=>hm x (by simp[hx])) ?_;simp only[stO,Zgy,hq]at h;exact h
theorem R9.run{cl cp:Int}{os:List Opn}{l:List Nat}{st:RSt}(h:R9 cl cp os l st):Aa cl cp os l ([],0,true)=none∧stO cl cp os l ([],0,true)=st∧∀ j∈l,∃ o,os[j]?=some o:=by
 induction h with
 | nil=>exact⟨rfl,rfl,by simp⟩
 | snoc i o h1 h2 h3 ih =>
  obtain⟨a,b,c⟩:=ih;refine⟨Iy h2 a c (by rw[b];exact h3),?_,fun j hj=>?_⟩
  ·unfold stO at b⊢;rw[Zif,b];simp[h2]
  rcases Zj.1 hj with q|q
  ·exact c j q
  rw[Zi.1 q];exact⟨o,h2⟩
theorem Td{os os':List Opn}(h:∀ i,Km os' i=Km os i):Kf os'=Kf os:=by
 have hd:∀ i,Fs os' i=Fs os i:=fun i=>by unfold Fs;rw[h]
 have hx:∀ i j,lxO os' i j=lxO os i j:=fun i j=>by unfold lxO;rw[h,h]
 have a:=Jn os;exact(Jn os').unique ⟨a.asc.imp fun {i j} q=>by rw[hx];exact q,fun i=>by rw[hd];exact a.mem i⟩
theorem Kl{os:List Opn}{z:Nat}{o o':Opn}(ho:os[z]?=some o)(i:Nat):Km (os.set z o') i=if i=z then o'.dec else Km os i:=by
 have hz:=(Zr.1 ho).1;unfold Km;rw[Yv];by_cases e:z=i
 ·subst e;simp[hz]
 rw[Zk9 e,Zk9 (fun q=>e q.symm)]
theorem Zsu{os:List Opn}{z:Nat}{o o':Opn}(ho:os[z]?=some o)(h0:o.dec = -1)(h1:o'.dec≠-1)(hl:∀ i,Fs os i=true→Km os i<o'.dec):Kf (os.set z o')=Kf os++[z]:=by
 have a:=Jn os;have hz:Fs os z=false:=by unfold Fs;rw[Vb ho,h0];rfl
 have ne:∀ i,Fs os i=true→i≠z:=fun i h e=>by rw[e,hz]at h;simp at h
 refine(Jn _).unique ⟨?_,fun i=>?_⟩
 ·rw[List.pairwise_append];refine⟨?_,by simp,fun i hi j hj=>?_⟩
  ·refine List.Pairwise.imp_of_mem (fun {i j} hi hj q=>?_) a.asc;unfold lxO at q⊢;rw[Kl ho,Kl ho,Zk9 (ne i ((a.mem i).1 hi)),Zk9 (ne j ((a.mem j).1 hj))];exact q
  rw[Zi.1 hj];unfold lxO;rw[Kl ho,Kl ho,Zk9 (ne i ((a.mem i).1 hi)),Zjx rfl];have:=hl i ((a.mem i).1 hi);simp only[Zjm];omega
 rw[Zj,Zi,a.mem];unfold Fs;rw[Kl ho];by_cases e:i=z
 ·subst e;simp[h1]
 simp[e]
theorem Zwy{os:List Opn}{o:Opn}(h:o.dec = -1)(i:Nat):Km (os++[o]) i=Km os i:=by
 unfold Km;rcases Zi2 i os.length with q|q|q
 ·rw[Ze q]
 ·subst q;rw[Zd (Yn _)];simp[h]
 rw[Zd (by omega),Zhe (by simp;omega),Zhe (by omega)]
structure Znr(k:Nat)(m:Wc)(o:Opn):Prop where
 cl:o.cl=(k:Int)
 ans:o.ans = -1
 und:m.st≤4→o.dec = -1∧o.bad.e=0
 dcd:5≤m.st→o.dec≠-1
 req:2≤m.st→m.st≤4→o.op=m.op∧o.ttl=m.ttl∧o.ns=m.ns
structure Ow(cl t:Int)(o:Opn):Prop where
 c0:0≤o.cl
 c1:o.cl<cl
 b0:0≤o.begun
 b1:o.begun<t
 d0:o.dec = -1→o.ans = -1
 d1:o.dec≠-1→o.begun<o.dec∧o.dec<t∧(o.ans = -1∨o.dec<o.ans∧o.ans<t)
theorem Ow.up{cl t:Int}{o:Opn}(h:Ow cl t o):Ow cl (t+1) o :=
 ⟨h.c0,h.c1,h.b0,by have:=h.b1;omega,h.d0,fun q=>by have:=h.d1 q;omega⟩
structure I2(cl:Int)(ms:List Wc)(os:List Opn)(last:List Int)(t:Int):Prop where
 len:last.length=ms.length
 cur:∀ (k:Nat) m z,ms[k]?=some m→last[k]?=some z→m.st≠0→∃ (zn:Nat) (o:Opn),z=(zn:Int)∧os[zn]?=some o∧Znr k m o
 opn:∀ (i:Nat) o,os[i]?=some o→o.ans = -1→∃ (k:Nat) (m:Wc),o.cl=(k:Int)∧ms[k]?=some m∧m.st≠0∧last[k]?=some (i:Int)
 each:∀ o∈os,Ow cl t o
 inc:∀ (i j:Nat) a b,i<j→os[i]?=some a→os[j]?=some b→a.begun<b.begun
 dst:∀ (i j:Nat) a b,os[i]?=some a→os[j]?=some b→a.dec≠-1→a.dec=b.dec→i=j
 late:∀ (i j:Nat) a b,i<j→os[i]?=some a→os[j]?=some b→a.cl=b.cl→a.ans≠-1∧a.ans<b.begun
 dsa:∀ (i j:Nat) a b,os[i]?=some a→os[j]?=some b→a.ans≠-1→a.ans=b.ans→i=j
def OpR(t:Int)(m:Wc)(s:Int)(m':Wc)(o o':Opn):Prop :=
 if s=3 then o'={o with dec:=t,res:=m'.ans,bad:=if m.st=1 then m'.ans else o.bad}
 else if s=4 then o'={o with ans:=t}
 else if m.st=1 then ∃ v,o'={o with op:=m'.op,ttl:=m'.ttl,nv:=v,ns:=m'.ns}
 else o'=o
def Lin(cl cp:Int)(x:Shr)(ms:List Wc)(os:List Opn)(last:List Int)(t:Int):Prop :=
 x.cp=cp∧∃ M,Ov cl x ms M∧I2 cl ms os last t∧∃ st:RSt,R9 cl cp os (Kf os) st∧st.1=M∧st.2.1≤x.clock
theorem I2.up{cl t:Int}{ms:List Wc}{os:List Opn}{last:List Int}(h:I2 cl ms os last t):I2 cl ms os last (t+1) :=
 ⟨h.len,h.cur,h.opn,fun o ho=>(h.each o ho).up,h.inc,h.dst,h.late,h.dsa⟩
theorem Lin.up{cl cp t:Int}{x:Shr}{ms:List Wc}{os:List Opn}{last:List Int}(h:Lin cl cp x ms os last t):Lin cl cp x ms os last (t+1):=by
 obtain⟨a,M,b,c,d⟩:=h;exact⟨a,M,b,c.up,d⟩
section
variable {cl cp t:Int} {x:Shr} {ms:List Wc} {os:List Opn} {last:List Int} {M:List Kp}
theorem Lin.new(h:Lin cl cp x ms os last t)(ht:0≤t){k:Nat}{m m':Wc}{o':Opn}(hk:ms[k]?=some m)(h0:m.st=0)(h1:m'.st=1)(hc:m'.cl=m.cl)(ok:MOk m')(a1:o'.cl=(k:Int))(a2:o'.begun=t)(a3:o'.dec = -1)(a4:o'.ans = -1)(a5:o'.bad.e=0) :
 Lin cl cp x (ms.set k m') (os++[o']) (last.set k (os.length:Int)) (t+1):=by
 obtain⟨hcp,M,hX,hO,st,hr,hM,hck⟩:=h;have hkl:=(Zr.1 hk).1;have hklt:=(hX.cli k m hk).2;have hkc:=(hX.cli k m hk).1;have old:∀ (i:Nat) o,(os++[o'])[i]?=some o→os[i]?=some o∨(i=os.length∧o=o'):=fun i o h=>by
  rcases Zis i os.length with g|g
  ·rw[Ze g]at h;exact .inl h
  rw[Zd g]at h;have:=(Zr.1 h).1;simp only[Zj3]at this;rw[show i-os.length=0 by omega]at h;exact .inr ⟨by omega,(Zjy h).symm⟩
 have lt_of:∀ {i:Nat} {o},os[i]?=some o→i<os.length:=fun h=>(Zr.1 h).1
 refine⟨hcp,M,?_,?_,st,?_,hM,hck⟩
 ·refine hX.calm hk hc ok (fun q _=>by omega) ?_ (fun _ _ _ _ _ _=>rfl) rfl rfl rfl (by omega) (by omega) (fun q=>by omega);rintro κ ⟨j,n,hn,_,q⟩;exfalso;rcases q with⟨q,_⟩ | ⟨q,_⟩ | ⟨q,_⟩<;>omega
 ·refine⟨by simp[hO.len],?_,?_,?_,?_,?_,?_,?_⟩
  ·intro j q z hj hz hs;rcases Wf hj with⟨e,e2⟩ | ⟨e,hj⟩
   ·subst e e2;rw[Zc (by rw[hO.len];exact hkl)]at hz;obtain rfl:=Zjy hz;exact⟨os.length,o',rfl,by simp,a1,a4,fun _=>⟨a3,a5⟩,fun q=>by omega,fun q=>by omega⟩
   rw[Zb (fun q=>e q.symm)]at hz;obtain⟨zn,o,e1,e2,e3⟩:=hO.cur j q z hj hz hs;exact⟨zn,o,e1,by rw[Ze (lt_of e2)];exact e2,e3⟩
  ·intro i o hi ha;rcases old i o hi with hi | ⟨e,e2⟩
   ·obtain⟨k',m1,e1,e2,e3,e4⟩:=hO.opn i o hi ha;have hne:k'≠k:=by
     intro e;subst e;rw[hk]at e2;obtain rfl:=Zjy e2;exact e3 h0
    exact⟨k',m1,e1,by rw[Zb (fun q=>hne q.symm)];exact e2,e3,by rw[Zb (fun q=>hne q.symm)];exact e4⟩
   subst e e2;exact⟨k,m',a1,Zc hkl,by omega,Zc (by rw[hO.len];exact hkl)⟩
  ·intro o ho;rcases Zj.1 ho with ho|ho
   ·exact(hO.each o ho).up
   rw[Zi.1 ho];exact⟨by omega,by omega,by omega,by omega,fun _=>a4,fun q=>absurd a3 q⟩
  ·intro i j a b hij hi hj;rcases old i a hi with hi | ⟨e,e2⟩
   ·rcases old j b hj with hj | ⟨e,e2⟩
    ·exact hO.inc i j a b hij hi hj
    rw[e2,a2];exact(hO.each a (Zy hi)).b1
   rcases old j b hj with hj | ⟨e',_⟩
   ·have:=lt_of hj;omega
   omega
  ·intro i j a b hi hj hd he;rcases old i a hi with hi | ⟨e,e2⟩
   ·rcases old j b hj with hj | ⟨_,e2⟩
    ·exact hO.dst i j a b hi hj hd he
    rw[e2,a3]at he;exact absurd he hd
   rw[e2,a3]at hd;exact absurd rfl hd
  ·intro i j a b hij hi hj hc;rcases old i a hi with hi | ⟨e,e2⟩
   ·rcases old j b hj with hj | ⟨e,e2⟩
    ·exact hO.late i j a b hij hi hj hc
    rw[e2,a1]at hc;have hE:=hO.each a (Zy hi);have hna:a.ans≠-1:=by
     intro q;obtain⟨k',m1,e1,e2,e3,_⟩:=hO.opn i a hi q;have:k'=k:=by omega
     subst this;rw[hk]at e2;obtain rfl:=Zjy e2;exact e3 h0
    refine⟨hna,?_⟩;rw[e2,a2];have hd:a.dec≠-1:=fun q=>hna (hE.d0 q)
    have:=hE.d1 hd;omega
   rcases old j b hj with hj | ⟨e',_⟩
   ·have:=lt_of hj;omega
   omega
  intro i j a b hi hj hd he;rcases old i a hi with hi | ⟨e,e2⟩
  ·rcases old j b hj with hj | ⟨_,e2⟩
   ·exact hO.dsa i j a b hi hj hd he
   rw[e2,a4]at he;exact absurd he hd
  rw[e2,a4]at hd;exact absurd rfl hd
 rw[Td (Zwy a3)];refine hr.congr fun i hi o ho=>⟨o,?_,.refl o⟩
 rw[Ze (lt_of ho)];exact ho
theorem I2.step(hO:I2 cl ms os last t)(ht:0≤t){k z:Nat}{m m':Wc}{o o':Opn}(hk:ms[k]?=some m)(hz:last[k]?=some (z:Int))(ho:os[z]?=some o)(hcur:Znr k m o)
 (c:o'.cl=o.cl) (b:o'.begun=o.begun) (A:m'.st≠0→Znr k m' o') (E:Ow cl (t+1) o') (D:o'.dec≠-1→o'.dec=o.dec∨o'.dec=t) (N:o'.ans = -1→m'.st≠0) (G:o'.ans≠-1→o'.ans=t) :
 I2 cl (ms.set k m') (os.set z o') last (t+1):=by
 have hkl:=(Zr.1 hk).1;have hzl:=(Zr.1 ho).1;refine⟨by simp[hO.len],?_,?_,?_,?_,?_,?_,?_⟩
 ·intro j q y hj hy hs;rcases Wf hj with⟨e,e2⟩ | ⟨e,hj⟩
  ·subst e e2;rw[hz]at hy;obtain rfl:=Zjy hy;exact⟨z,o',rfl,Zc hzl,A hs⟩
  obtain⟨zn,p,e1,e2,e3⟩:=hO.cur j q y hj hy hs;refine⟨zn,p,e1,?_,e3⟩;have hne:z≠zn:=by
   intro e4;subst e4;rw[ho]at e2;obtain rfl:=Zjy e2;have h1:=e3.cl;have h2:=hcur.cl;omega
  rw[Zb hne];exact e2
 ·intro i p hi ha;rcases Wf hi with⟨e,e2⟩ | ⟨e,hi⟩
  ·subst e e2;exact⟨k,m',by rw[c,hcur.cl],Zc hkl,N ha,hz⟩
  obtain⟨k',m1,e1,e2,e3,e4⟩:=hO.opn i p hi ha;have hne:k≠k':=by
   intro e5;subst e5;rw[hz]at e4;have:=Zjy e4;omega
  exact⟨k',m1,e1,by rw[Zb hne];exact e2,e3,e4⟩
 ·intro p hp;obtain⟨i,hi⟩:=Zjr hp;rcases Wf hi with⟨_,e2⟩ | ⟨_,hi⟩
  ·rw[e2];exact E
  exact(hO.each p (Zy hi)).up
 ·intro i j a q hij hi hj;rcases Wf hi with⟨e,e2⟩ | ⟨e,hi1⟩
  ·rcases Wf hj with⟨e',_⟩ | ⟨_,hj1⟩
   ·omega
   subst e e2;rw[b];exact hO.inc i j o q hij ho hj1
  rcases Wf hj with⟨e',e2⟩ | ⟨_,hj1⟩
  ·subst e' e2;rw[b];exact hO.inc i j a o hij hi1 ho
  exact hO.inc i j a q hij hi1 hj1
 ·intro i j a q hi hj hd he;rcases Wf hi with⟨e,e2⟩ | ⟨e,hi1⟩
  ·rcases Wf hj with⟨e',_⟩ | ⟨_,hj1⟩
   ·omega
   subst e e2;rcases D hd with h1|h1
   ·exact hO.dst i j o q ho hj1 (by rw[← h1];exact hd) (by rw[← h1];exact he)
   have hq:=(hO.each q (Zy hj1)).d1 (by omega);omega
  rcases Wf hj with⟨e',e2⟩ | ⟨_,hj1⟩
  ·subst e' e2;rcases D (by omega)with h1|h1
   ·exact hO.dst i j a o hi1 ho hd (by rw[← h1];exact he)
   have hq:=(hO.each a (Zy hi1)).d1 hd;omega
  exact hO.dst i j a q hi1 hj1 hd he
 ·intro i j a q hij hi hj hc;rcases Wf hi with⟨e,e2⟩ | ⟨e,hi1⟩
  ·rcases Wf hj with⟨e',_⟩ | ⟨_,hj1⟩
   ·omega
   subst e e2;exact absurd hcur.ans (hO.late i j o q hij ho hj1 (by rw[← c];exact hc)).1
  rcases Wf hj with⟨e',e2⟩ | ⟨_,hj1⟩
  ·subst e' e2;rw[b];exact hO.late i j a o hij hi1 ho (by rw[← c];exact hc)
  exact hO.late i j a q hij hi1 hj1 hc
 intro i j a q hi hj hd he;rcases Wf hi with⟨e,e2⟩ | ⟨e,hi1⟩
 ·rcases Wf hj with⟨e',_⟩ | ⟨_,hj1⟩
  ·omega
  subst e e2;have h1:=G hd;have hE:=hO.each q (Zy hj1);have hq:=hE.d1 fun e=>by have:=hE.d0 e;omega
  omega
 rcases Wf hj with⟨e',e2⟩ | ⟨_,hj1⟩
 ·subst e' e2;have h1:=G (by omega);have hE:=hO.each a (Zy hi1);have hq:=hE.d1 fun e=>hd (hE.d0 e)
  omega
 exact hO.dsa i j a q hi1 hj1 hd he
theorem R9.keep{st:RSt}(hr:R9 cl cp os (Kf os) st){z:Nat}{o o':Opn}(ho:os[z]?=some o)(hd:o'.dec=o.dec)(hs:o.dec≠-1→I7 o o'):R9 cl cp (os.set z o') (Kf (os.set z o')) st:=by
 rw[Td (os:=os) fun i=>by
  rw[Kl ho];split
  ·rename_i e;rw[e,Vb ho,hd]
  rfl]
 refine hr.congr fun i hi q hq=>?_
 by_cases e:i=z
 ·subst e;rw[ho]at hq;obtain rfl:=Zjy hq;refine⟨o',Zc (Zr.1 ho).1,hs fun e=>?_⟩;have:=((Jn os).mem i).1 hi;unfold Fs at this;rw[Vb ho,e]at this;simp at this
 exact⟨q,by rw[Zb (fun q=>e q.symm)];exact hq,.refl q⟩
theorem R9.more{st:RSt}(hr:R9 cl cp os (Kf os) st)(hE:∀ o∈os,Ow cl t o)(ht:0≤t){z:Nat}{o o':Opn}(ho:os[z]?=some o)(h0:o.dec = -1)(hd:o'.dec=t)(he:(Vm cl cp st o').1=0):R9 cl cp (os.set z o') (Kf (os.set z o')) (Vm cl cp st o').2:=by
 have hz:z ∉ Kf os:=fun hi=>by
  have:=((Jn os).mem z).1 hi;unfold Fs at this;rw[Vb ho,h0]at this;simp at this
 rw[Zsu ho h0 (by omega) fun i hi=>by
  have hl:=Du hi;have e:os[i]?=some os[i]:=Zz hl;rw[Vb e,hd];unfold Fs at hi;rw[Vb e]at hi;exact((hE _ (Zy e)).d1 (by simpa using hi)).2.1]
 refine(hr.congr fun i hi q hq=>⟨q,?_,.refl q⟩).snoc z o' (Zc (Zr.1 ho).1) he;rw[Zb (fun e=>hz (by rw[e];exact hi))];exact hq
theorem Lin.step(h:Lin cl cp x ms os last t)(ht:0≤t){k z:Nat}{s:Int}{m m':Wc}{x':Shr}{o o':Opn}(hk:ms[k]?=some m)(h0:m.st≠0)(hs:Kc m x s m' x')(ok:MOk m')(hz:last[k]?=some (z:Int))(ho:os[z]?=some o)(hop:OpR t m s m' o o') :
 Lin cl cp x' (ms.set k m') (os.set z o') last (t+1):=by
 obtain⟨hcp,M,hX,hO,st,hr,hM,hck⟩:=h;obtain⟨M',hX',hsame,hdec⟩:=hX.any hk ok hcp hs;have k0:=hX.mok m (Zy hk);have s0:=k0.s0;have s1:=k0.s1;have hE:=hO.each o (Zy ho);obtain⟨zn,oo,e1,e2,hcur⟩:=hO.cur k m z hk hz h0;obtain rfl:zn=z:=by omega
 rw[ho]at e2;obtain rfl:=Zjy e2;clear e1 e2;have hkc:=(hX.cli k m hk).1;have calm:o'=o→x'.cp=x.cp→x'.clock=x.clock→m.st≠4→m'.st≠0→(m'.st≤4→m.st≤4)→(5≤m'.st→5≤m.st)→(2≤m'.st→m'.st≤4→2≤m.st∧m'.op=m.op∧m'.ttl=m.ttl∧m'.ns=m.ns)→Lin cl cp x' (ms.set k m') (os.set zn o') last (t+1):=by
  rintro rfl q1 q2 q3 q4 q5 q6 q7;refine⟨by rw[q1];exact hcp,M',hX',hO.step ht hk hz ho hcur rfl rfl (fun _=>⟨hcur.cl,hcur.ans,fun q=>hcur.und (q5 q),fun q=>hcur.dcd (q6 q),fun a b=>?_⟩) hE.up (fun _=>.inl rfl) (fun _=>q4) (fun q=>absurd hcur.ans q),st,hr.keep ho rfl (fun _=>.refl _),by rw[hM,hsame q3],by rw[q2];exact hck⟩;obtain⟨a1,a2,a3,a4⟩:=q7 a b;rw[a2,a3,a4];exact hcur.req a1 (q5 b)
 have decides:o'={o with dec:=t,res:=m'.ans,bad:=o.bad}→m.st=4→x'.cp=x.cp→x'.clock=x.clock→5≤m'.st→m'.st≠0→Lin cl cp x' (ms.set k m') (os.set zn o') last (t+1):=by
  rintro e q4 q1 q2 q5 q0;obtain⟨d0,b0⟩:=hcur.und (by omega);obtain⟨r1,r2,r3⟩:=hcur.req (by omega) (by omega);obtain⟨g1,g2⟩:=hdec q4;have hres:(doR cl cp M m.cl m.op m.ttl x.clock m.ns).tick=x.clock:=by
   have hp:=hX.proper hk q4;unfold doR;rw[Zjx hp];exact Ai _ _ _ _ _ _ _
  have htick:Jq st o'≤x.clock:=by
   subst e;unfold Jq;split
   ·simp only;rw[g2,hres];exact Zip _
   exact hck
  have hstep:Vm cl cp st o'=(0,M',x.clock,Qz st o'):=by
   obtain⟨T,hT⟩:=gnX (Jq st o');rw[hT]at htick;have hperf:Jm cl cp st.1 T o'=(0,M',x.clock):=by
    subst e;unfold Jm;rw[Zk9 (by simp[b0])];simp only;rw[g2,hres,Zk9 (by omega),r1,r2,r3,hcur.cl,← hkc,hM,Mh,← g1];rfl
   unfold Vm;rw[hT,hperf]
  have hO':I2 cl (ms.set k m') (os.set zn o') last (t+1):=by
   subst e;refine hO.step ht hk hz ho hcur rfl rfl (fun _=>⟨hcur.cl,hcur.ans,fun q=>by omega,fun _=>by simp only;omega,fun a b=>by omega⟩) ⟨hE.c0,hE.c1,hE.b0,by have:=hE.b1;simp only;omega,fun q=>hcur.ans,fun _=>⟨hE.b1,by simp only;omega,.inl hcur.ans⟩⟩ (fun _=>.inr rfl) (fun _=>q0) (fun q=>absurd hcur.ans q)
  refine⟨by rw[q1];exact hcp,M',hX',hO',_,hr.more hO.each ht ho d0 (by rw[e]) (by rw[hstep]),by rw[hstep],by rw[hstep,q2];exact Zip _⟩
 unfold OpR at hop;have es:=fun(q:Wc) l nx=>Qi (m:=q) (l:=l) (nx:=nx)
 cases hs with
 | idle e1=>exact absurd e1 h0
 | bad _ e1 e2 ec ei en ea =>
  rw[Zjx rfl,Zjx e1]at hop;obtain⟨d0,b0⟩:=hcur.und (by omega);have hstep:Vm cl cp st o'=(0,st.1,st.2.1,Qz st o'):=by
   subst hop;have ht':Jq st {o with dec:=t,res:=m'.ans,bad:=m'.ans}=st.2.1:=by
    unfold Jq;rw[Zk9 (fun q=>ea q.2)]
   unfold Vm;rw[ht'];unfold Jm;rw[Zjx ea];simp[Mh]
  have hO':I2 cl (ms.set k m') (os.set zn o') last (t+1):=by
   subst hop;refine hO.step ht hk hz ho hcur rfl rfl (fun _=>⟨hcur.cl,hcur.ans,fun q=>by omega,fun _=>by simp only;omega,fun a b=>by omega⟩) ⟨hE.c0,hE.c1,hE.b0,by have:=hE.b1;simp only;omega,fun q=>hcur.ans,fun _=>⟨hE.b1,by simp only;omega,.inl hcur.ans⟩⟩ (fun _=>.inr rfl) (fun _=>by omega) (fun q=>absurd hcur.ans q)
  refine⟨hcp,M',hX',hO',_,hr.more hO.each ht ho d0 (by rw[hop]) (by rw[hstep]),by rw[hstep,hsame (by omega)];exact hM,by rw[hstep];exact hck⟩
 | req _ e1 e2 ec ei er =>
  rw[Zk9 (by omega),Zk9 (by omega),Zjx e1]at hop;obtain⟨v,hop⟩:=hop;obtain⟨d0,b0⟩:=hcur.und (by omega);have hO':I2 cl (ms.set k m') (os.set zn o') last (t+1):=by
   subst hop;exact hO.step ht hk hz ho hcur rfl rfl (fun _=>⟨hcur.cl,hcur.ans,fun _=>⟨d0,b0⟩,fun q=>by omega,fun _ _=>⟨rfl,rfl,rfl⟩⟩) ⟨hE.c0,hE.c1,hE.b0,by have:=hE.b1;simp only;omega,fun q=>hcur.ans,fun q=>absurd d0 q⟩ (fun _=>.inl rfl) (fun _=>by omega) (fun q=>absurd hcur.ans q)
  exact⟨hcp,M',hX',hO',st,hr.keep ho (by rw[hop]) (fun q=>absurd d0 q),by rw[hM,hsame (by omega)],hck⟩
 | block n c e1 =>
  rw[Zk9 (by omega),Zk9 (by omega),Zk9 (by omega)]at hop;exact calm hop rfl rfl (by omega) h0 id id fun a b=>⟨a,rfl,rfl,rfl⟩
 | lock n c v e1 ei hn hfree =>
  rw[Zk9 (by omega),Zk9 (by omega),Zk9 (by omega)]at hop;rcases es m m.ns.length 3 with⟨_,e⟩ | ⟨_,e⟩<;>rw[e]at calm⊢<;>refine calm hop rfl rfl (by omega) ?_ ?_ ?_ ?_<;>simp only<;>intros<;>first|omega|(refine⟨by omega,?_,?_,?_⟩<;>first|trivial|rfl)
 | read n c v e1 ei hn =>
  rw[Zk9 (by omega),Zk9 (by omega),Zk9 (by omega)]at hop;rcases es {m with rv:=v,rs:=m.rs++[Xg x.rs n.k]} m.ns.length 4 with⟨_,e⟩ | ⟨_,e⟩<;>rw[e]at calm⊢<;>refine calm hop rfl rfl (by omega) ?_ ?_ ?_ ?_<;>simp only<;>intros<;>first|omega|(refine⟨by omega,?_,?_,?_⟩<;>first|trivial|rfl)
 | stay e1 he =>
  rw[Zjx rfl,Zk9 (by omega)]at hop;exact decides hop e1 rfl rfl (by simp) (by simp)
 | go e1 he hq =>
  rw[Zjx rfl,Zk9 (by omega)]at hop;exact decides hop e1 rfl rfl (by simp) (by simp)
 | write n r c D v e1 ei hn hr hD =>
  rw[Zk9 (by omega),Zk9 (by omega),Zk9 (by omega)]at hop;rcases es m m.ns.length 6 with⟨_,e⟩ | ⟨_,e⟩<;>rw[e]at calm⊢<;>refine calm hop rfl rfl (by omega) ?_ ?_ ?_ ?_<;>simp only<;>intros<;>first|omega|(refine⟨by omega,?_,?_,?_⟩<;>first|trivial|rfl)
 | free n c v e1 ei hn =>
  rw[Zk9 (by omega),Zk9 (by omega),Zk9 (by omega)]at hop;rcases es m m.ns.length 7 with⟨_,e⟩ | ⟨_,e⟩<;>rw[e]at calm⊢<;>refine calm hop rfl rfl (by omega) ?_ ?_ ?_ ?_<;>simp only<;>intros<;>first|omega|(refine⟨by omega,?_,?_,?_⟩<;>first|trivial|rfl)
 | reply e1 =>
  rw[Zk9 (by omega),Zjx rfl]at hop;have d0:=hcur.dcd (by omega);have hO':I2 cl (ms.set k {m with st:=0}) (os.set zn o') last (t+1):=by
   subst hop;have hd:=hE.d1 d0;exact hO.step ht hk hz ho hcur rfl rfl (fun q=>absurd rfl q) ⟨hE.c0,hE.c1,hE.b0,by have:=hE.b1;simp only;omega,fun q=>absurd q d0,fun _=>⟨hd.1,by have:=hd.2.1;simp only;omega,.inr ⟨hd.2.1,by simp only;omega⟩⟩⟩ (fun _=>.inl rfl) (fun q=>by simp only at q;omega) (fun _=>rfl)
  exact⟨hcp,M',hX',hO',st,hr.keep ho (by rw[hop]) (fun _=>by rw[hop];exact⟨rfl,rfl,rfl,rfl,rfl,rfl⟩),by rw[hM,hsame (by omega)],hck⟩
end
theorem Gm{os:List Opn}{c:Int}:∀ {i:Nat} {p:Opn},lastOf os i c=some p→∃ j,j<i∧os[j]?=some p∧p.cl=c
 | 0,p,h=>by simp[lastOf]at h
 | i+1,p,h=>by
  rw[lastOf]at h;split at h
  ·rename_i o ho;split at h
   ·rename_i hc;obtain rfl:=Zjy h;exact⟨i,by omega,ho,hc⟩
   obtain⟨j,a,b,d⟩:=Gm h;exact⟨j,by omega,b,d⟩
  obtain⟨j,a,b,d⟩:=Gm h;exact⟨j,by omega,b,d⟩
section
variable {cl cp t:Int} {x:Shr} {ms:List Wc} {os:List Opn} {last:List Int}
theorem I2.okAt(hO:I2 cl ms os last t){i:Nat}(hi:i<os.length):okAt cl os i=true:=by
 obtain⟨o,ho⟩:∃ o,os[i]?=some o:=⟨_,Zz hi⟩;have hE:=hO.each o (Zy ho);have h1:Kw cl o=true:=by
  have c0:=hE.c0;have c1:=hE.c1;have b0:=hE.b0;unfold Kw;rw[Zk9 (by omega)];split
  ·rename_i q;simp[hE.d0 q]
  rename_i q;obtain⟨d1,_,d3⟩:=hE.d1 q;rcases d3 with d3|d3<;>simp[d1,d3]
 have h2:Zui os i o=false:=by
  unfold Zui;split
  ·rename_i p hp;rcases Zj4 i with q|q
   ·simp[q]
   have:=hO.inc (i-1) i p o (by omega) hp ho;simp only[Bool.and_eq_false_iff,Zji];right;omega
  rfl
 have h3:(o.dec != -1&&seenD os i o.dec)=false:=by
  cases hd:(o.dec != -1)
  ·rfl
  rw[Bool.true_and];unfold seenD;rw[Zg1];intro p hp;obtain⟨j,hj⟩:=Zjr hp;have hjl:=(Zr.1 hj).1;rw[Zp]at hjl;rw[Ziu (by omega)]at hj;intro e;have e':p.dec=o.dec:=by simpa using e
  have:=hO.dst i j o p ho hj (by simpa using hd) e'.symm;omega
 have h4:Di os i o=false:=by
  unfold Di K4;cases hl:lastOf os i o.cl with
  | none=>rfl
  | some p =>
   obtain⟨j,a,b,d⟩:=Gm hl;obtain⟨q1,q2⟩:=hO.late j i p o a b ho d;simp[q1,q2]
 unfold Go.Proofs.YtnbclgbicnpmnaaGreat.okAt;rw[ho];simp only;rw[h1,h2,h3,h4];rfl
theorem Lin.repl(h:Lin cl cp x ms os last t)(hc:V7 cl cp=0)(hl:os.length≤4096):Bm cl cp os=(0,0):=by
 obtain⟨_,M,_,hO,st,hr,_⟩:=h;unfold Bm;rw[Bw hc (by omega) fun j hj=>hO.okAt hj,Zk9 (by simp),hr.run.1]
theorem Lin.real(h:Lin cl cp x ms os last t){a b i j:Nat}{o p:Opn}(hab:b<a)(ha:(Kf os)[a]?=some i)(hb:(Kf os)[b]?=some j)(hi:os[i]?=some o)(hj:os[j]?=some p):¬ (0≤o.ans∧o.ans<p.begun):=by
 obtain⟨_,M,_,hO,_⟩:=h;have is:=Jn os;obtain⟨a1,a2⟩:=Zr.1 ha;obtain⟨b1,b2⟩:=Zr.1 hb;have hlt:=Zjh.1 is.asc b a b1 a1 hab;rw[a2,b2]at hlt;unfold lxO at hlt;rw[Vb hi,Vb hj,Zjm]at hlt;have m1:=(is.mem i).1 (Zy ha);have m2:=(is.mem j).1 (Zy hb);unfold Fs at m1 m2;rw[Vb hi]at m1;rw[Vb hj]at m2;have e1:=(hO.each o (Zy hi)).d1 (by simpa using m1);have e2:=(hO.each p (Zy hj)).d1 (by simpa using m2);rintro⟨q1,q2⟩;omega
theorem Lin.tick(h:Lin cl cp x ms os last t){c:Int}(h0:x.clock≤c)(h1:c≤1073741824):Lin cl cp {x with clock:=c} ms os last (t+1):=by
 obtain⟨hcp,M,hX,hO,st,hr,hM,hck⟩:=h;exact⟨hcp,M,⟨hX.cli,hX.mok,hX.req,hX.lck,hX.asc,hX.nz,hX.cnt,hX.rcd,hX.pnd,hX.tck,hX.rd,by have:=hX.clk.1;simp only;omega,h1⟩,hO.up,st,hr,hM,by simp only;omega⟩
theorem Lin.start(hms:∀ (k:Nat) m,ms[k]?=some m→m.cl=(k:Int)∧(k:Int)<cl∧MOk m∧m.st=0)(hl:last.length=ms.length)(c0:x.clock=0)(s0:x.sum=0)(r0:x.rs=[])(hcp:x.cp=cp):Lin cl cp x ms [] last 0:=by
 have at_:∀ m∈ms,MOk m∧m.st=0:=fun m hm=>by
  obtain⟨k,hk⟩:=Zjr hm;exact(hms k m hk).2.2
 refine⟨hcp,[],⟨fun k m hk=>⟨(hms k m hk).1,(hms k m hk).2.1⟩,fun m hm=>(at_ m hm).1,fun m hm q=>?_,?_,List.Pairwise.nil,fun p hp=>by simp at hp,by rw[s0];rfl,fun κ _=>by rw[r0],fun m hm j n r _ _ hp=>?_,fun m hm q=>?_,fun m hm q=>?_,by omega⟩,⟨hl,fun k m z hk _ q=>absurd (hms k m hk).2.2.2 q,by simp,by simp,by simp,by simp,by simp,by simp⟩,([],0,true),?_,rfl,by simp[c0]⟩
 ·have:=(at_ m hm).2;omega
 ·rintro k m κ hk ⟨j,n,hn,_,q⟩;have:=(hms k m hk).2.2.2;exfalso;rcases q with⟨q,_⟩ | ⟨q,_⟩ | ⟨q,_⟩<;>omega
 ·have:=(at_ m hm).2;have:=hp.1;omega
 ·have:=(at_ m hm).2;omega
 ·have:=(at_ m hm).2;omega
 have:Kf []=[]:=List.length_eq_zero_iff.1 (Nat.le_zero.1 (Zy1 []));rw[this];exact .nil
end
end
