/- Lemmas of this claim: Lin. Conditions: as named. -/
import Derived.Test.YtnbclgbicnpmnaaGreatA17
namespace Go.Proofs.YtnbclgbicnpmnaaGreat
open Go.RowKit Go.Sort Tryz
set_option maxHeartbeats 0
set_option maxRecDepth 100000
set_option linter.all false
section
theorem Zuc{l:List Kp}(ha:Aq l)(hz:NZ l){n:Nm}{op client dl now:Int}(ht:Vf (Xd l n.k).st (Xd l n.k).ow (Xd l n.k).dl op client now=0)(h1:1≤op)(h7:op≤7) :
 ((Jb l n.k (Wn op client dl n (Xd l n.k))).length:Int)=l.length+Xk (Xd l n.k).st op:=by
 obtain⟨r,hr⟩:=gnX (Xd l n.k);have hnot:=Zrj hz (k:=n.k);rw[hr]at ht hnot⊢;have hlen:=Ge (k:=n.k) (r:=Wn op client dl n r) (d:=(Wn op client dl n r).st==0) ha;unfold Jb;by_cases hs:r.st=0
 ·have hp:¬ ∃ p∈l,p.1=n.k:=hnot.1 hs;rw[Zgq hp]at hlen;rcases(show op=1∨op=2∨op=3∨op=4∨op=5∨op=6∨op=7 by omega)with rfl|rfl|rfl|rfl|rfl|rfl|rfl;all_goals simp[Vf,Qo,Kd,hs]at ht
  all_goals simp[Wn,Jh,hs,Xk]at hlen⊢
  all_goals omega
 have hp:∃ p∈l,p.1=n.k:=Classical.not_not.1 fun h=>hs (hnot.2 h)
 rw[Zgn hp]at hlen;have hb:(r.st==0)=false:=by simp[hs]
 rcases(show op=1∨op=2∨op=3∨op=4∨op=5∨op=6∨op=7 by omega)with rfl|rfl|rfl|rfl|rfl|rfl|rfl;all_goals simp[Wn,Jh,hs,hb,Xk]at hlen⊢
 all_goals omega
theorem Lv{op client dl now:Int}(h1:1≤op)(h7:op≤7):∀ {ps:List (Nm×Rc)} {l:List Kp},Aq l→NZ l→PW ps→(∀ p∈ps,Xd l p.1.k=p.2)→(∀ p∈ps,Vf p.2.st p.2.ow p.2.dl op client now=0) →
 Aq (Ji op client dl l ps)∧((Ji op client dl l ps).length:Int)=l.length+Rb op (ps.map Prod.snd)
 | [],l,ha,_,_,_,_=>⟨ha,by simp[Ji,Rb]⟩
 | p::ps,l,ha,hz,hp,hg,ht=>by
  obtain⟨h3,h4⟩:=Zg5.1 hp;have hgp:=hg p (by simp);have htp:=ht p (by simp);rw[V3];have hs:=Zuc (n:=p.1) (client:=client) (dl:=dl) (now:=now) ha hz (by rw[hgp];exact htp) h1 h7;rw[hgp]at hs;obtain⟨i1,i2⟩:=Lv (dl:=dl) h1 h7 (ps:=ps) (l:=Jb l p.1.k (Wn op client dl p.1 p.2)) (Q7 ha) (Zwg hz _ _) h4 (fun q hq=>by rw[Wr _ (fun e=>h3 q hq e.symm)];exact hg q (by simp[hq])) (fun q hq=>ht q (by simp[hq]));refine⟨i1,?_⟩;rw[i2,hs,Zg4,Zzr];omega
theorem Oi(r:Zzk):Dd r r=true:=by simp[Dd]
theorem F8(cap op client ttl now count:Int)(ps:List (Nm×Rc)):(Wm cap op client ttl now count ps).tick=now:=by
 unfold Wm;split
 ·rfl
 split<;>rfl
def Zh9(m:Wc)(j:Nat):Prop:=(m.st=2∧(j:Int)<m.i)∨(3≤m.st∧m.st≤5)∨(m.st=6∧m.i≤(j:Int))
def Ju(m:Wc)(κ:ByteArray):Prop:=∃ (j:Nat) (n:Nm),m.ns[j]?=some n∧n.k=κ∧Zh9 m j
def Zir(m:Wc)(j:Nat):Prop:=m.st=5∧m.i≤(j:Int)
def Zjw(m:Wc)(κ:ByteArray):Prop:=∃ (j:Nat) (n:Nm),m.ns[j]?=some n∧n.k=κ∧Zir m j
theorem Zjw.locked{m:Wc}{κ:ByteArray}(h:Zjw m κ):Ju m κ:=by
 obtain⟨j,n,h1,h2,h3,h4⟩:=h;exact⟨j,n,h1,h2,.inr (.inl (by omega))⟩
def nzR(r:Rc):Rc:=if r.st=0 then default else r
structure Ps(cl:Int)(x:Shr)(ms:List Wc)(M:List Kp):Prop where
 cli:∀ (k:Nat) m,ms[k]?=some m→m.cl=(k:Int)∧(k:Int)<cl
 mok:∀ m∈ms,MOk m
 req:∀ m∈ms,2≤m.st→m.st≤6→Zt9 m
 lck:∀ (k:Nat) m κ,ms[k]?=some m→Ju m κ→(Xd x.ks κ).st=1∧(Xd x.ks κ).ow=(k:Int)
 asc:Aq M
 nz:NZ M
 cnt:x.sum=M.length
 rcd:∀ κ,(∀ m∈ms,¬ Zjw m κ)→Xd x.rs κ=Xd M κ
 pnd:∀ m∈ms,∀ (j:Nat) n r,m.ns[j]?=some n→m.rs[j]?=some r→Zir m j→Xd M n.k=nzR (Wn m.op m.cl (m.ans.tick+m.ttl) n r)
 tck:∀ m∈ms,m.st=5→0≤m.ans.tick∧m.ans.tick≤1073741824
 rd:∀ m∈ms,m.st=3∨m.st=4→∀ (j:Nat) n r,m.ns[j]?=some n→m.rs[j]?=some r→r=Xd M n.k
 clk:0≤x.clock∧x.clock≤1073741824
section
variable {cl:Int} {x:Shr} {ms:List Wc} {M:List Kp}
theorem We{α:Type}{l:List α}{k j:Nat}{b c:α}(h:(l.set k b)[j]?=some c):(j=k∧c=b)∨(j≠k∧l[j]?=some c):=by
 rw[Yv]at h;split at h
 ·rename_i e;subst e;split at h
  ·exact .inl ⟨rfl,(Zgm h).symm⟩
  cases h
 rename_i e;exact .inr ⟨fun q=>e q.symm,h⟩
theorem set_self{α:Type}{l:List α}{k:Nat}{a:α}(h:l[k]?=some a):l.set k a=l:=by
 apply Zdi;intro i;rw[Yv];split
 ·rename_i e;subst e;rw[Zgn (Zr.1 h).1,h]
 rfl
theorem Ps.apart(h:Ps cl x ms M){k j:Nat}{m m':Wc}{κ:ByteArray}(hk:ms[k]?=some m)(hj:ms[j]?=some m')(h1:Ju m κ)(h2:Ju m' κ):k=j:=by
 have a:=(h.lck k m κ hk h1).2;have b:=(h.lck j m' κ hj h2).2;omega
theorem Zhc{l:List Nm}(h:srt l=true){i j:Nat}{a b:Nm}(hi:l[i]?=some a)(hj:l[j]?=some b)(e:a.k=b.k):i=j:=by
 have hp:=Zw5 h;obtain⟨i1,rfl⟩:=Zr.1 hi;obtain⟨j1,rfl⟩:=Zr.1 hj;rcases Zf1 i j with q|q|q
 ·have:=Zfz.1 hp i j i1 j1 q;unfold J0 at this;rw[e]at this;exact absurd this (Zfq _)
 ·exact q
 have:=Zfz.1 hp j i j1 i1 q;unfold J0 at this;rw[e]at this;exact absurd this (Zfq _)
theorem Ty{m:Wc}{j:Nat}{n:Nm}(hs:3≤m.st∧m.st≤5)(hn:m.ns[j]?=some n):Ju m n.k:=⟨j,n,hn,rfl,.inr (.inl hs)⟩
theorem Ps.step(h:Ps cl x ms M){k:Nat}{m m':Wc}{x':Shr}{M':List Kp}(hk:ms[k]?=some m)(c:m'.cl=m.cl)(ok:MOk m')(rq:2≤m'.st→m'.st≤6→Zt9 m')
 (lk:∀ κ,Ju m' κ→(Xd x'.ks κ).st=1∧(Xd x'.ks κ).ow=(k:Int))
 (lo:∀ (j:Nat) mj κ,j≠k→ms[j]?=some mj→Ju mj κ→Xd x'.ks κ=Xd x.ks κ)
 (a:Aq M') (z:NZ M') (cn:x'.sum=M'.length)
 (rc:∀ κ,¬ Zjw m' κ→(∀ (j:Nat) mj,j≠k→ms[j]?=some mj→¬ Zjw mj κ)→Xd x'.rs κ=Xd M' κ)
 (pn:∀ (j:Nat) n r,m'.ns[j]?=some n→m'.rs[j]?=some r→Zir m' j→Xd M' n.k=nzR (Wn m'.op m'.cl (m'.ans.tick+m'.ttl) n r))
 (po:∀ (j:Nat) mj κ,j≠k→ms[j]?=some mj→Ju mj κ→Xd M' κ=Xd M κ)
 (tk:m'.st=5→0≤m'.ans.tick∧m'.ans.tick≤1073741824)
 (rdm:m'.st=3∨m'.st=4→∀ (j:Nat) n r,m'.ns[j]?=some n→m'.rs[j]?=some r→r=Xd M' n.k)
 (ck:0≤x'.clock∧x'.clock≤1073741824):Ps cl x' (ms.set k m') M':=by
 have mem:∀ q∈ms.set k m',q=m'∨∃ j,j≠k∧ms[j]?=some q:=fun q hq=>by
  obtain⟨j,hj⟩:=Zgd hq;rcases We hj with⟨_,e⟩ | ⟨e,h1⟩
  ·exact .inl e
  exact .inr ⟨j,e,h1⟩
 have mem':m'∈ms.set k m':=Zy (Zc (Zr.1 hk).1);refine⟨?_,?_,?_,?_,a,z,cn,?_,?_,?_,?_,ck⟩
 ·intro j q hq;rcases We hq with⟨e,e2⟩ | ⟨_,h1⟩
  ·rw[e2,e,c];exact h.cli k m hk
  exact h.cli j q h1
 ·intro q hq;rcases mem q hq with rfl | ⟨j,_,h1⟩
  ·exact ok
  exact h.mok q (Zy h1)
 ·intro q hq;rcases mem q hq with rfl | ⟨j,_,h1⟩
  ·exact rq
  exact h.req q (Zy h1)
 ·intro j q κ hq hl;rcases We hq with⟨e,e2⟩ | ⟨e,h1⟩
  ·rw[e2]at hl;rw[e];exact lk κ hl
  rw[lo j q κ e h1 hl];exact h.lck j q κ h1 hl
 ·intro κ hp;exact rc κ (hp m' mem') fun j mj hj h1=>hp mj (Zy (by rw[Zb (fun e=>hj e.symm)];exact h1))
 ·intro q hq j n r hn hr hp;rcases mem q hq with rfl | ⟨i,e,h1⟩
  ·exact pn j n r hn hr hp
  rw[po i q n.k e h1 (Zjw.locked ⟨j,n,hn,rfl,hp⟩)];exact h.pnd q (Zy h1) j n r hn hr hp
 ·intro q hq;rcases mem q hq with rfl | ⟨j,_,h1⟩
  ·exact tk
  exact h.tck q (Zy h1)
 intro q hq hs j n r hn hr;rcases mem q hq with rfl | ⟨i,e,h1⟩
 ·exact rdm hs j n r hn hr
 rw[po i q n.k e h1 (Ty (by omega) hn)];exact h.rd q (Zy h1) hs j n r hn hr
theorem Qj{m:Wc}{l:Nat}{nx:Int}:(m.i+1=l∧Q2 m l nx={m with i:=0,st:=nx})∨(m.i+1≠l∧Q2 m l nx={m with i:=m.i+1}):=by
 unfold Q2;by_cases h:m.i+1=l
 ·exact .inl ⟨h,Zgn h⟩
 exact .inr ⟨h,Zgq h⟩
theorem Ps.calm(h:Ps cl x ms M){k:Nat}{m m':Wc}{x':Shr}(hk:ms[k]?=some m)(c:m'.cl=m.cl)(ok:MOk m')(rq:2≤m'.st→m'.st≤6→Zt9 m')
 (lk:∀ κ,Ju m' κ→(Xd x'.ks κ).st=1∧(Xd x'.ks κ).ow=(k:Int))
 (lo:∀ (j:Nat) mj κ,j≠k→ms[j]?=some mj→Ju mj κ→Xd x'.ks κ=Xd x.ks κ)
 (er:x'.rs=x.rs) (es:x'.sum=x.sum) (ec:x'.clock=x.clock) (n5:m'.st≠5) (o5:m.st≠5)
 (rdm:m'.st=3∨m'.st=4→∀ (j:Nat) n r,m'.ns[j]?=some n→m'.rs[j]?=some r→r=Xd M n.k):Ps cl x' (ms.set k m') M:=by
 refine h.step hk c ok rq lk lo h.asc h.nz (by rw[es];exact h.cnt) ?_ (fun j n r _ _ hp=>absurd hp.1 n5) (fun _ _ _ _ _ _=>rfl) (fun e=>absurd e n5) rdm (by rw[ec];exact h.clk);intro κ _ hp;rw[er];refine h.rcd κ fun q hq=>?_
 obtain⟨j,hj⟩:=Zgd hq;by_cases e:j=k
 ·subst e;rw[hk]at hj;obtain rfl:=Zgm hj;rintro⟨_,_,_,_,q,_⟩;exact o5 q
 exact hp j q e hj
theorem Ps.reads(h:Ps cl x ms M){m:Wc}(hmem:m∈ms)(e1:m.st=4):m.ns.zip m.rs=Qy M m.ns∧(Qy M m.ns).map Prod.snd=m.rs:=by
 have hl:=(h.mok m hmem).r4 (by omega) (by omega);have he:m.ns.zip m.rs=Qy M m.ns:=by
  have hg:=h.rd m hmem (.inr e1);unfold Qy;apply Zce
  ·simp;omega
  intro j h1 h2;have j1:j<m.ns.length:=by simp at h2;exact h2
  have j2:j<m.rs.length:=by omega
  rw[List.getElem_zip,Zcg];have:=hg j m.ns[j] m.rs[j] (Zz _) (Zz _);rw[this]
 refine⟨he,?_⟩;rw[← he,List.map_snd_zip (by omega)]
theorem Ps.proper(h:Ps cl x ms M){k:Nat}{m:Wc}(hk:ms[k]?=some m)(e1:m.st=4):Jc cl m.cl m.op m.ttl x.clock m.ns=true:=by
 have hrq:=h.req m (Zy hk) (by omega) (by omega);obtain⟨a,b⟩:=h.cli k m hk;exact Ye ⟨by omega,by omega,hrq.o0,hrq.o1,h.clk.1,h.clk.2,hrq.t1,hrq.t0,hrq.l0,hrq.l1,hrq.q,hrq.srt,hrq.good⟩
theorem Ps.done(h:Ps cl x ms M){k:Nat}{m:Wc}(hk:ms[k]?=some m)(e1:m.st=4)(h0:(doR cl x.cp M m.cl m.op m.ttl x.clock m.ns).e=0) :
 Aq (doL cl x.cp M m.cl m.op m.ttl x.clock m.ns)∧((doL cl x.cp M m.cl m.op m.ttl x.clock m.ns).length:Int)=M.length+Rb m.op m.rs ∧
 (∀ n∈m.ns,Xd (doL cl x.cp M m.cl m.op m.ttl x.clock m.ns) n.k=nzR (Wn m.op m.cl (x.clock+m.ttl) n (Xd M n.k)))∧∀ κ,(¬ ∃ n∈m.ns,n.k=κ)→Xd (doL cl x.cp M m.cl m.op m.ttl x.clock m.ns) κ=Xd M κ:=by
 have hmem:=Zy hk;have hrq:=h.req m hmem (by omega) (by omega);obtain⟨_,hsn⟩:=h.reads hmem e1;have hp:=h.proper hk e1;unfold doR at h0;rw[Zgn hp]at h0;unfold doL;rw[Zgn ⟨hp,h0⟩];have hpw:=Zvx (l:=M) hrq.srt;have hmw:∀ p∈Qy M m.ns,Xd M p.1.k=p.2:=fun p hp=>by
  obtain⟨n,_,rfl⟩:=Zgg.1 hp;rfl
 obtain⟨g1,g2⟩:=Lv (dl:=x.clock+m.ttl) (client:=m.cl) (now:=x.clock) hrq.o0 hrq.o1 h.asc h.nz hpw hmw (Bl (Se h0));rw[hsn]at g2;refine⟨g1,g2,fun n hn=>?_,fun κ hκ=>Jq fun p hp=>?_⟩
 ·have hm:(n,Xd M n.k)∈Qy M m.ns:=Zgg.2 ⟨n,hn,rfl⟩;rw[Gk hpw _ hm];rfl
 obtain⟨n,hn,rfl⟩:=Zgg.1 hp;exact fun e=>hκ ⟨n,hn,e⟩
theorem Ps.calmR(h:Ps cl x ms M){k:Nat}{m:Wc}{κ:ByteArray}(hk:ms[k]?=some m)(o5:m.st≠5)(ho:∀ (j:Nat) mj,j≠k→ms[j]?=some mj→¬ Zjw mj κ):Xd x.rs κ=Xd M κ:=by
 refine h.rcd κ fun q hq=>?_
 obtain⟨j,hj⟩:=Zgd hq;by_cases e:j=k
 ·subst e;rw[hk]at hj;obtain rfl:=Zgm hj;rintro⟨_,_,_,_,q,_⟩;exact o5 q
 exact ho j q e hj
theorem Ps.any(h:Ps cl x ms M){cp:Int}{k:Nat}{m m':Wc}{x':Shr}{s:Int}(hk:ms[k]?=some m)(ok:MOk m')(hcp:x.cp=cp)(hr:K7 m x s m' x') :
 ∃ M',Ps cl x' (ms.set k m') M'∧(m.st≠4→M'=M) ∧
  (m.st=4→M'=doL cl cp M m.cl m.op m.ttl x.clock m.ns∧m'.ans=doR cl cp M m.cl m.op m.ttl x.clock m.ns):=by
 have hmem:=Zy hk;have k0:=h.mok m hmem;have hcl:=(h.cli k m hk).1;have hlt:=(h.cli k m hk).2;subst hcp;cases hr with
 | bad _ e1 e2 ec ei en ea =>
  refine⟨M,h.calm hk ec ok (fun _ _=>by omega) ?_ (fun _ _ _ _ _ _=>rfl) rfl rfl rfl (by omega) (by omega) (fun e=>by omega),fun _=>rfl,fun e=>by omega⟩;rintro κ ⟨j,n,hn,_⟩;rw[en]at hn;simp at hn
 | req _ e1 e2 ec ei er =>
  refine⟨M,h.calm hk ec ok (fun _ _=>er) ?_ (fun _ _ _ _ _ _=>rfl) rfl rfl rfl (by omega) (by omega) (fun e=>by omega),fun _=>rfl,fun e=>by omega⟩;rintro κ ⟨j,n,hn,e,hj⟩;have h0:=(k0.e2 (by omega) (by omega)).2 e1;exfalso;rcases hj with⟨_,q⟩ | ⟨q,_⟩ | ⟨q,_⟩<;>omega
 | idle e1=>exact⟨M,by rw[set_self hk];exact h,fun _=>rfl,fun e=>by omega⟩
 | block n c e1=>exact⟨M,by rw[set_self hk];exact h,fun _=>rfl,fun e=>by omega⟩
 | lock n c v e1 ei hn hfree =>
  have hrq:=h.req m hmem (by omega) (by omega);refine⟨M,h.calm hk (by rcases Qj (m:=m) (l:=m.ns.length) (nx:=3)with⟨_,e⟩ | ⟨_,e⟩<;>rw[e]) ok (fun _ _=>?_) ?_ ?_ rfl rfl rfl ?_ (by omega) ?_,fun _=>rfl,fun e=>by omega⟩
  ·rcases Qj (m:=m) (l:=m.ns.length) (nx:=3)with⟨_,e⟩ | ⟨_,e⟩<;>rw[e]<;>exact⟨hrq.o0,hrq.o1,hrq.t1,hrq.t0,hrq.l0,hrq.l1,hrq.q,hrq.srt,hrq.good⟩
  ·intro κ hl;simp only;by_cases hκ:κ=n.k
   ·subst hκ;rw[Qq,Zgq (by simp)];exact⟨rfl,hcl⟩
   rw[Wr _ hκ];refine h.lck k m κ hk ?_;obtain⟨j,n',hn',eκ,hj⟩:=hl;rcases Qj (m:=m) (l:=m.ns.length) (nx:=3)with⟨q,e⟩ | ⟨_,e⟩
   ·rw[e]at hn' hj;refine⟨j,n',hn',eκ,.inl ⟨e1,?_⟩⟩;have:=(Zr.1 hn').1;rcases Zff j c with g|g
    ·omega
    exfalso;have:j=c:=by simp only at this;omega
    subst this;rw[hn]at hn';obtain rfl:=Zgm hn';exact hκ eκ.symm
   rw[e]at hn' hj;refine⟨j,n',hn',eκ,.inl ⟨e1,?_⟩⟩;rcases Zff j c with g|g
   ·omega
   exfalso;have hj2:(j:Int)<m.i+1:=by
    rcases hj with⟨_,q⟩ | ⟨q,_⟩ | ⟨q,_⟩
    ·exact q
    ·simp only at q;omega
    simp only at q;omega
   have:j=c:=by omega
   subst this;rw[hn]at hn';obtain rfl:=Zgm hn';exact hκ eκ.symm
  ·intro j mj κ hj hmj hl;refine Wr _ (fun e=>?_) _;subst e;obtain⟨a,b⟩:=h.lck j mj _ hmj hl;have:=hfree a (by omega);omega
  ·rcases Qj (m:=m) (l:=m.ns.length) (nx:=3)with⟨_,e⟩ | ⟨_,e⟩<;>rw[e]<;>simp only<;>omega
  intro hs j n' r hn' hr';have:m.rs=[]:=(k0.e2 (by omega) (by omega)).1;rcases Qj (m:=m) (l:=m.ns.length) (nx:=3)with⟨_,e⟩ | ⟨_,e⟩<;>rw[e]at hr'<;>simp[this]at hr'
 | read n c v e1 ei hn =>
  have hrq:=h.req m hmem (by omega) (by omega);have hR:∃ R,Xd x.rs n.k=R:=⟨_,rfl⟩;obtain⟨R,hR⟩:=hR;have hRM:R=Xd M n.k:=by
   rw[← hR];refine h.rcd n.k fun q hq hp=>?_
   obtain⟨j,hj⟩:=Zgd hq;have:=h.apart hk hj (Ty (by omega) hn) hp.locked;subst this;rw[hk]at hj;obtain rfl:=Zgm hj;obtain⟨_,_,_,_,q,_⟩:=hp;omega
  have h3:=k0.r3 e1;rw[hR]at ok⊢;obtain⟨L,hL⟩:=gnX (m.rs++[R]);have hget:∀ (j:Nat) n' r,m.ns[j]?=some n'→L[j]?=some r→r=Xd M n'.k:=by
   intro j n' r hn' hr';rw[← hL]at hr';rcases Zff j m.rs.length with g|g
   ·rw[Ze g]at hr';exact h.rd m hmem (.inl e1) j n' r hn' hr'
   rw[Zd g]at hr';have:j=c:=by
    have:=(Zr.1 hr').1;simp only[Zfe]at this;omega
   subst this;rw[show j-m.rs.length=0 by omega]at hr';obtain rfl:=Zgm hr';rw[hn]at hn';obtain rfl:=Zgm hn';exact hRM
  rw[hL]at ok⊢;refine⟨M,h.calm hk ?_ ok (fun _ _=>?_) ?_ (fun _ _ _ _ _ _=>rfl) rfl rfl rfl ?_ (by omega) ?_,fun _=>rfl,fun e=>by omega⟩
  ·rcases Qj (m:={m with rv:=v,rs:=L}) (l:=m.ns.length) (nx:=4)with⟨_,e⟩ | ⟨_,e⟩<;>rw[e]
  ·rcases Qj (m:={m with rv:=v,rs:=L}) (l:=m.ns.length) (nx:=4)with⟨_,e⟩ | ⟨_,e⟩<;>rw[e]<;>exact⟨hrq.o0,hrq.o1,hrq.t1,hrq.t0,hrq.l0,hrq.l1,hrq.q,hrq.srt,hrq.good⟩
  ·intro κ hl;obtain⟨j,n',hn',eκ,hj⟩:=hl;refine h.lck k m κ hk ⟨j,n',?_,eκ,.inr (.inl (by omega))⟩;rcases Qj (m:={m with rv:=v,rs:=L}) (l:=m.ns.length) (nx:=4)with⟨_,e⟩ | ⟨_,e⟩<;>rw[e]at hn'<;>exact hn'
  ·rcases Qj (m:={m with rv:=v,rs:=L}) (l:=m.ns.length) (nx:=4)with⟨_,e⟩ | ⟨_,e⟩<;>rw[e]<;>simp only<;>omega
  intro _ j n' r hn' hr';rcases Qj (m:={m with rv:=v,rs:=L}) (l:=m.ns.length) (nx:=4)with⟨_,e⟩ | ⟨_,e⟩<;>rw[e]at hn' hr'<;>exact hget j n' r hn' hr'
 | stay e1 he =>
  have hrq:=h.req m hmem (by omega) (by omega);obtain⟨hz,_⟩:=h.reads hmem e1;have hp:=h.proper hk e1;have hd:Wm x.cp m.op m.cl m.ttl x.clock x.sum (m.ns.zip m.rs)=doR cl x.cp M m.cl m.op m.ttl x.clock m.ns:=by
   unfold doR;rw[Zgn hp,hz,h.cnt]
  rw[hd]at he ok⊢;have hi:=k0.i4 e1;obtain⟨M',hM'⟩:∃ M',doL cl x.cp M m.cl m.op m.ttl x.clock m.ns=M':=⟨_,rfl⟩;have facts:Aq M'∧M'.length=M.length∧∀ κ,Xd M' κ=Xd M κ:=by
   by_cases h0:(doR cl x.cp M m.cl m.op m.ttl x.clock m.ns).e=0
   ·have h7:m.op=7:=he.resolve_left fun q=>q h0
    obtain⟨f1,f2,f3,f4⟩:=h.done hk e1 h0;rw[hM']at f1 f2 f3 f4;have f5:Rb m.op m.rs=0:=by
     rw[h7];have:∀ rs:List Rc,Rb 7 rs=0:=fun rs=>by
      induction rs with
      | nil=>rfl
      | cons r rs ih=>rw[Zzr,ih];simp[Xk]
     exact this _
    refine⟨f1,by omega,fun κ=>?_⟩;by_cases hκ:∃ n∈m.ns,n.k=κ
    ·obtain⟨n,hn,rfl⟩:=hκ;rw[f3 n hn,h7];unfold nzR;have:Wn 7 m.cl (x.clock+m.ttl) n (Xd M n.k)=Xd M n.k:=by simp[Wn,Jh,J5,Ko,J4]
     rw[this];split
     ·rename_i q;exact(Zwr h.nz q).symm
     rfl
    exact f4 κ hκ
   rw[Zhq h0]at hM';subst hM';exact⟨h.asc,rfl,fun _=>rfl⟩
  obtain⟨f1,f2,f3⟩:=facts;have nz':NZ M':=hM'▸Zuj h.nz;refine⟨M',h.step hk rfl ok (fun _ _=>⟨hrq.o0,hrq.o1,hrq.t1,hrq.t0,hrq.l0,hrq.l1,hrq.q,hrq.srt,hrq.good⟩) ?_ (fun _ _ _ _ _ _=>rfl) f1 nz' (by rw[h.cnt,f2]) ?_ (fun j n r _ _ hp=>absurd hp.1 (by simp)) (fun _ _ _ _ _ _=>f3 _) (fun q=>by simp at q) (fun q=>by simp at q) h.clk,fun e=>absurd e1 e,fun _=>⟨hM'.symm,rfl⟩⟩
  ·rintro κ ⟨j,n,hn,eκ,_⟩;exact h.lck k m κ hk ⟨j,n,hn,eκ,.inr (.inl (by omega))⟩
  intro κ _ ho;rw[f3];exact h.calmR hk (by omega) ho
 | go e1 he hq =>
  have hrq:=h.req m hmem (by omega) (by omega);obtain⟨hz,hsn⟩:=h.reads hmem e1;have hp:=h.proper hk e1;have hd:Wm x.cp m.op m.cl m.ttl x.clock x.sum (m.ns.zip m.rs)=doR cl x.cp M m.cl m.op m.ttl x.clock m.ns:=by
   unfold doR;rw[Zgn hp,hz,h.cnt]
  have htick:(doR cl x.cp M m.cl m.op m.ttl x.clock m.ns).tick=x.clock:=by rw[← hd];exact F8 _ _ _ _ _ _ _
  rw[hd]at he ok⊢;have hi:=k0.i4 e1;obtain⟨f1,f2,f3,f4⟩:=h.done hk e1 he;obtain⟨M',hM'⟩:∃ M',doL cl x.cp M m.cl m.op m.ttl x.clock m.ns=M':=⟨_,rfl⟩;have nz':NZ M':=hM'▸Zuj h.nz;rw[hM']at f1 f2 f3 f4;refine⟨M',h.step hk rfl ok (fun _ _=>⟨hrq.o0,hrq.o1,hrq.t1,hrq.t0,hrq.l0,hrq.l1,hrq.q,hrq.srt,hrq.good⟩) ?_ (fun _ _ _ _ _ _=>rfl) f1 nz' (by simp only;rw[h.cnt,f2]) ?_ ?_ ?_ (fun _=>by simp only;rw[htick];exact h.clk) (fun q=>by simp at q) h.clk,fun e=>absurd e1 e,fun _=>⟨hM'.symm,rfl⟩⟩
  ·rintro κ ⟨j,n,hn,eκ,_⟩;exact h.lck k m κ hk ⟨j,n,hn,eκ,.inr (.inl (by omega))⟩
  ·intro κ hp' ho;have hκ:¬ ∃ n∈m.ns,n.k=κ:=by
    rintro⟨n,hn,eκ⟩;obtain⟨j,hj⟩:=Zgd hn;exact hp' ⟨j,n,hj,eκ,rfl,by simp only;omega⟩
   rw[f4 κ hκ];exact h.calmR hk (by omega) ho
  ·intro j n r hn hr _;have hn':m.ns[j]?=some n:=hn;have hr':m.rs[j]?=some r:=hr;have:=h.rd m hmem (.inr e1) j n r hn' hr';simp only;rw[f3 n (Zy hn'),htick,this]
  intro j mj κ hj hmj hl;refine f4 κ ?_;rintro⟨n,hn,rfl⟩;obtain⟨i,hi'⟩:=Zgd hn;exact hj (h.apart hmj hk hl (Ty (by omega) hi'))
 | write n r c D v e1 ei hn hr hD =>
  have hrq:=h.req m hmem (by omega) (by omega);have htk:=h.tck m hmem e1;have hD':D=m.ans.tick+m.ttl:=by
   cases ht:Xh m.op
   ·have:=hrq.t0 ht;exact hD (by omega) (by omega)
   have:=hrq.t1 ht;exact hD (by omega) (by omega)
  subst hD';clear hD;have hpn:=h.pnd m hmem c n r hn hr ⟨e1,by omega⟩;have es:=fun nx=>Qj (m:=m) (l:=m.ns.length) (nx:=nx)
  refine⟨M,h.step hk ?_ ok (fun _ _=>?_) ?_ (fun _ _ _ _ _ _=>rfl) h.asc h.nz h.cnt ?_ ?_ (fun _ _ _ _ _ _=>rfl) (fun hs=>?_) ?_ h.clk,fun _=>rfl,fun e=>by omega⟩
  ·rcases es 6 with⟨_,e⟩ | ⟨_,e⟩<;>rw[e]
  ·rcases es 6 with⟨_,e⟩ | ⟨_,e⟩<;>rw[e]<;>exact⟨hrq.o0,hrq.o1,hrq.t1,hrq.t0,hrq.l0,hrq.l1,hrq.q,hrq.srt,hrq.good⟩
  ·intro κ hl;obtain⟨j,n',hn',eκ,hj⟩:=hl;refine h.lck k m κ hk ⟨j,n',?_,eκ,.inr (.inl (by omega))⟩;rcases es 6 with⟨_,e⟩ | ⟨_,e⟩<;>rw[e]at hn'<;>exact hn'
  ·intro κ hp ho;simp only;by_cases hκ:κ=n.k
   ·subst hκ;rw[Qq,hpn];rfl
   rw[Wr _ hκ];refine h.rcd κ fun q hq=>?_
   obtain⟨j,hj⟩:=Zgd hq;by_cases e:j=k
   ·subst e;rw[hk]at hj;obtain rfl:=Zgm hj;rintro⟨j',n',hn',eκ,_,hge⟩;have hne:j'≠c:=by
     rintro rfl;rw[hn]at hn';obtain rfl:=Zgm hn';exact hκ eκ.symm
    have hlt':=(Zr.1 hn').1;rcases es 6 with⟨q,e⟩ | ⟨q,e⟩
    ·omega
    refine hp ⟨j',n',?_,eκ,?_⟩
    ·rw[e];exact hn'
    rw[e];exact⟨e1,by simp only;omega⟩
   exact ho j q e hj
  ·intro j n' r' hn' hr' hp;rcases es 6 with⟨q,e⟩ | ⟨q,e⟩
   ·rw[e]at hp;obtain⟨q,_⟩:=hp;simp only at q;omega
   rw[e]at hn' hr' hp⊢;exact h.pnd m hmem j n' r' hn' hr' ⟨e1,by have:=hp.2;simp only at this;omega⟩
  ·rcases es 6 with⟨q,e⟩ | ⟨q,e⟩<;>rw[e]<;>exact htk
  intro hs;exfalso;rcases es 6 with⟨q,e⟩ | ⟨q,e⟩<;>rw[e]at hs<;>simp only at hs<;>omega
 | free n c v e1 ei hn =>
  have hrq:=h.req m hmem (by omega) (by omega);have es:=fun nx=>Qj (m:=m) (l:=m.ns.length) (nx:=nx)
  have hown:Ju m n.k:=⟨c,n,hn,rfl,.inr (.inr ⟨e1,by omega⟩)⟩;refine⟨M,h.calm hk ?_ ok (fun _ _=>?_) ?_ ?_ rfl rfl rfl ?_ (by omega) ?_,fun _=>rfl,fun e=>by omega⟩
  ·rcases es 7 with⟨_,e⟩ | ⟨_,e⟩<;>rw[e]
  ·rcases es 7 with⟨_,e⟩ | ⟨_,e⟩<;>rw[e]<;>exact⟨hrq.o0,hrq.o1,hrq.t1,hrq.t0,hrq.l0,hrq.l1,hrq.q,hrq.srt,hrq.good⟩
  ·intro κ hl;obtain⟨j,n',hn',eκ,hj⟩:=hl;rcases es 7 with⟨q,e⟩ | ⟨q,e⟩
   ·rw[e]at hj;exfalso;rcases hj with⟨q,_⟩ | ⟨_,q⟩ | ⟨q,_⟩<;>simp only at q<;>omega
   rw[e]at hn' hj;have hj2:m.i+1≤(j:Int):=by
    rcases hj with⟨q,_⟩ | ⟨q,q'⟩ | ⟨_,q⟩
    ·simp only at q;omega
    ·simp only at q q';omega
    exact q
   have hκ:κ≠n.k:=by
    intro e2;have:=Zhc hrq.srt hn hn' (by rw[eκ,e2]);omega
   simp only;rw[Wr _ hκ];exact h.lck k m κ hk ⟨j,n',hn',eκ,.inr (.inr ⟨e1,by omega⟩)⟩
  ·intro j mj κ hj hmj hl;refine Wr _ (fun e=>?_) _;subst e;exact hj (h.apart hmj hk hl hown)
  ·rcases es 7 with⟨_,e⟩ | ⟨_,e⟩<;>rw[e]<;>simp only<;>omega
  intro hs;exfalso;rcases es 7 with⟨q,e⟩ | ⟨q,e⟩<;>rw[e]at hs<;>simp only at hs<;>omega
 | reply e1 =>
  refine⟨M,h.calm hk rfl ok (fun q _=>by simp at q) ?_ (fun _ _ _ _ _ _=>rfl) rfl rfl rfl (by simp) (by omega) (fun e=>by simp at e),fun _=>rfl,fun e=>by omega⟩;rintro κ ⟨j,n,hn,_,hj⟩;exfalso;rcases hj with⟨q,_⟩ | ⟨q,_⟩ | ⟨q,_⟩<;>simp at q
end
def Zvn(o o':Opn):Prop:=o'.cl=o.cl∧o'.op=o.op∧o'.ttl=o.ttl∧o'.ns=o.ns∧o'.bad=o.bad∧o'.res=o.res
theorem Zvn.refl(o:Opn):Zvn o o:=⟨rfl,rfl,rfl,rfl,rfl,rfl⟩
theorem Zvn.step{o o':Opn}(h:Zvn o o')(cl cp:Int)(st:RSt):Ud cl cp st o'=Ud cl cp st o:=by
 obtain⟨a,b,c,d,e,f⟩:=h;unfold Ud Ph Lj Er;rw[a,b,c,d,e,f]
inductive Zz1 (cl cp:Int) (os:List Opn):List Nat→RSt→Prop
 | nil:Zz1 cl cp os [] ([],0,true)
 | snoc {l:List Nat} {st:RSt} (i:Nat) (o:Opn):Zz1 cl cp os l st→os[i]?=some o→(Ud cl cp st o).1=0→Zz1 cl cp os (l++[i]) (Ud cl cp st o).2
theorem Zz1.congr{cl cp:Int}{os os':List Opn}{l:List Nat}{st:RSt}(h:Zz1 cl cp os l st)(hs:∀ i∈l,∀ o,os[i]?=some o→∃ o',os'[i]?=some o'∧Zvn o o'):Zz1 cl cp os' l st:=by
 induction h with
 | nil=>exact .nil
 | snoc i o h1 h2 h3 ih =>
  obtain⟨o',e1,e2⟩:=hs i (by simp) o h2;have:=(ih fun j hj=>hs j (by simp[hj])).snoc i o' e1 (by rw[e2.step];exact h3)
  rwa [e2.step]at this
theorem Cq{os os':List Opn}(h:∀ i,Uy os' i=Uy os i):Us os'=Us os:=by
 have hd:∀ i,Pm os' i=Pm os i:=fun i=>by unfold Pm;rw[h]
 have hx:∀ i j,lxO os' i j=lxO os i j:=fun i j=>by unfold lxO;rw[h,h]
 have a:=Kb os;exact(Kb os').unique ⟨a.asc.imp fun {i j} q=>by rw[hx];exact q,fun i=>by rw[hd];exact a.mem i⟩
theorem Ux{os:List Opn}{z:Nat}{o o':Opn}(ho:os[z]?=some o)(i:Nat):Uy (os.set z o') i=if i=z then o'.dec else Uy os i:=by
 have hz:=(Zr.1 ho).1;unfold Uy;rw[Yv];by_cases e:z=i
 ·subst e;simp[hz]
 rw[Zgq e,Zgq (fun q=>e q.symm)]
theorem Zq3{os:List Opn}{z:Nat}{o o':Opn}(ho:os[z]?=some o)(h0:o.dec = -1)(h1:o'.dec≠-1)(hl:∀ i,Pm os i=true→Uy os i<o'.dec):Us (os.set z o')=Us os++[z]:=by
 have a:=Kb os;have hz:Pm os z=false:=by unfold Pm;rw[Jk ho,h0];rfl
 have ne:∀ i,Pm os i=true→i≠z:=fun i h e=>by rw[e,hz]at h;simp at h
 refine(Kb _).unique ⟨?_,fun i=>?_⟩
 ·rw[List.pairwise_append];refine⟨?_,by simp,fun i hi j hj=>?_⟩
  ·refine List.Pairwise.imp_of_mem (fun {i j} hi hj q=>?_) a.asc;unfold lxO at q⊢;rw[Ux ho,Ux ho,Zgq (ne i ((a.mem i).1 hi)),Zgq (ne j ((a.mem j).1 hj))];exact q
  rw[Zi.1 hj];unfold lxO;rw[Ux ho,Ux ho,Zgq (ne i ((a.mem i).1 hi)),Zgn rfl];have:=hl i ((a.mem i).1 hi);simp only[Zgh];omega
 rw[Zj,Zi,a.mem];unfold Pm;rw[Ux ho];by_cases e:i=z
 ·subst e;simp[h1]
 simp[e]
theorem Zvc{os:List Opn}{o:Opn}(h:o.dec = -1)(i:Nat):Uy (os++[o]) i=Uy os i:=by
 unfold Uy;rcases Zf1 i os.length with q|q|q
 ·rw[Ze q]
 ·subst q;rw[Zd (Ym _)];simp[h]
 rw[Zd (by omega),List.getElem?_eq_none (by simp;omega),List.getElem?_eq_none (by omega)]
structure Zkd(k:Nat)(m:Wc)(o:Opn):Prop where
 cl:o.cl=(k:Int)
 ans:o.ans = -1
 und:m.st≤4→o.dec = -1∧o.bad.e=0
 dcd:5≤m.st→o.dec≠-1
 req:2≤m.st→m.st≤4→o.op=m.op∧o.ttl=m.ttl∧o.ns=m.ns
structure Pe(cl t:Int)(o:Opn):Prop where
 c0:0≤o.cl
 c1:o.cl<cl
 b0:0≤o.begun
 b1:o.begun<t
 d0:o.dec = -1→o.ans = -1
 d1:o.dec≠-1→o.begun<o.dec∧o.dec<t∧(o.ans = -1∨o.dec<o.ans∧o.ans<t)
theorem Pe.up{cl t:Int}{o:Opn}(h:Pe cl t o):Pe cl (t+1) o :=
 ⟨h.c0,h.c1,h.b0,by have:=h.b1;omega,h.d0,fun q=>by have:=h.d1 q;omega⟩
structure Zta(cl:Int)(ms:List Wc)(os:List Opn)(last:List Int)(t:Int):Prop where
 len:last.length=ms.length
 cur:∀ (k:Nat) m z,ms[k]?=some m→last[k]?=some z→m.st≠0→∃ (zn:Nat) (o:Opn),z=(zn:Int)∧os[zn]?=some o∧Zkd k m o
 opn:∀ (i:Nat) o,os[i]?=some o→o.ans = -1→∃ (k:Nat) (m:Wc),o.cl=(k:Int)∧ms[k]?=some m∧m.st≠0∧last[k]?=some (i:Int)
 each:∀ o∈os,Pe cl t o
 inc:∀ (i j:Nat) a b,i<j→os[i]?=some a→os[j]?=some b→a.begun<b.begun
 dst:∀ (i j:Nat) a b,os[i]?=some a→os[j]?=some b→a.dec≠-1→a.dec=b.dec→i=j
 late:∀ (i j:Nat) a b,i<j→os[i]?=some a→os[j]?=some b→a.cl=b.cl→a.ans≠-1∧a.ans<b.begun
 dsa:∀ (i j:Nat) a b,os[i]?=some a→os[j]?=some b→a.ans≠-1→a.ans=b.ans→i=j
def OpR(t:Int)(m:Wc)(s:Int)(m':Wc)(o o':Opn):Prop :=
 if s=3 then o'={o with dec:=t,res:=m'.ans,bad:=if m.st=1 then m'.ans else o.bad}
 else if s=4 then o'={o with ans:=t}
 else if m.st=1 then ∃ v,o'={o with op:=m'.op,ttl:=m'.ttl,nv:=v,ns:=m'.ns}
 else o'=o
def Lin(cl cp:Int)(x:Shr)(ms:List Wc)(os:List Opn)(last:List Int)(t:Int):Prop :=
 x.cp=cp∧∃ M,Ps cl x ms M∧Zta cl ms os last t∧∃ st:RSt,Zz1 cl cp os (Us os) st∧st.1=M∧st.2.1≤x.clock
theorem Zta.up{cl t:Int}{ms:List Wc}{os:List Opn}{last:List Int}(h:Zta cl ms os last t):Zta cl ms os last (t+1) :=
 ⟨h.len,h.cur,h.opn,fun o ho=>(h.each o ho).up,h.inc,h.dst,h.late,h.dsa⟩
theorem Lin.up{cl cp t:Int}{x:Shr}{ms:List Wc}{os:List Opn}{last:List Int}(h:Lin cl cp x ms os last t):Lin cl cp x ms os last (t+1):=by
 obtain⟨a,M,b,c,d⟩:=h;exact⟨a,M,b,c.up,d⟩
section
variable {cl cp t:Int} {x:Shr} {ms:List Wc} {os:List Opn} {last:List Int} {M:List Kp}
theorem Lin.new(h:Lin cl cp x ms os last t)(ht:0≤t){k:Nat}{m m':Wc}{o':Opn}(hk:ms[k]?=some m)(h0:m.st=0)(h1:m'.st=1)(hc:m'.cl=m.cl)(ok:MOk m')(a1:o'.cl=(k:Int))(a2:o'.begun=t)(a3:o'.dec = -1)(a4:o'.ans = -1)(a5:o'.bad.e=0) :
 Lin cl cp x (ms.set k m') (os++[o']) (last.set k (os.length:Int)) (t+1):=by
 obtain⟨hcp,M,hX,hO,st,hr,hM,hck⟩:=h;have hkl:=(Zr.1 hk).1;have hklt:=(hX.cli k m hk).2;have hkc:=(hX.cli k m hk).1;have old:∀ (i:Nat) o,(os++[o'])[i]?=some o→os[i]?=some o∨(i=os.length∧o=o'):=fun i o h=>by
  rcases Zff i os.length with g|g
  ·rw[Ze g]at h;exact .inl h
  rw[Zd g]at h;have:=(Zr.1 h).1;simp only[Zfe]at this;rw[show i-os.length=0 by omega]at h;exact .inr ⟨by omega,(Zgm h).symm⟩
 have lt_of:∀ {i:Nat} {o},os[i]?=some o→i<os.length:=fun h=>(Zr.1 h).1
 refine⟨hcp,M,?_,?_,st,?_,hM,hck⟩
 ·refine hX.calm hk hc ok (fun q _=>by omega) ?_ (fun _ _ _ _ _ _=>rfl) rfl rfl rfl (by omega) (by omega) (fun q=>by omega);rintro κ ⟨j,n,hn,_,q⟩;exfalso;rcases q with⟨q,_⟩ | ⟨q,_⟩ | ⟨q,_⟩<;>omega
 ·refine⟨by simp[hO.len],?_,?_,?_,?_,?_,?_,?_⟩
  ·intro j q z hj hz hs;rcases We hj with⟨e,e2⟩ | ⟨e,hj⟩
   ·subst e e2;rw[Zc (by rw[hO.len];exact hkl)]at hz;obtain rfl:=Zgm hz;exact⟨os.length,o',rfl,by simp,a1,a4,fun _=>⟨a3,a5⟩,fun q=>by omega,fun q=>by omega⟩
   rw[Zb (fun q=>e q.symm)]at hz;obtain⟨zn,o,e1,e2,e3⟩:=hO.cur j q z hj hz hs;exact⟨zn,o,e1,by rw[Ze (lt_of e2)];exact e2,e3⟩
  ·intro i o hi ha;rcases old i o hi with hi | ⟨e,e2⟩
   ·obtain⟨k',m1,e1,e2,e3,e4⟩:=hO.opn i o hi ha;have hne:k'≠k:=by
     intro e;subst e;rw[hk]at e2;obtain rfl:=Zgm e2;exact e3 h0
    exact⟨k',m1,e1,by rw[Zb (fun q=>hne q.symm)];exact e2,e3,by rw[Zb (fun q=>hne q.symm)];exact e4⟩
   subst e e2;exact⟨k,m',a1,Zc hkl,by omega,Zc (by rw[hO.len];exact hkl)⟩
  ·intro o ho;rcases Zj.1 ho with ho|ho
   ·exact(hO.each o ho).up
   rw[Zi.1 ho];exact⟨by omega,by omega,by omega,by omega,fun _=>a4,fun q=>absurd a3 q⟩
  ·intro i j a b hij hi hj;rcases old i a hi with hi | ⟨e,e2⟩
   ·rcases old j b hj with hj | ⟨e,e2⟩
    ·exact hO.inc i j a b hij hi hj
    rw[e2,a2];exact(hO.each a (Zy hi)).b1
   rcases old j b hj with hj | ⟨e',_⟩
   ·have:=lt_of hj;omega
   omega
  ·intro i j a b hi hj hd he;rcases old i a hi with hi | ⟨e,e2⟩
   ·rcases old j b hj with hj | ⟨_,e2⟩
    ·exact hO.dst i j a b hi hj hd he
    rw[e2,a3]at he;exact absurd he hd
   rw[e2,a3]at hd;exact absurd rfl hd
  ·intro i j a b hij hi hj hc;rcases old i a hi with hi | ⟨e,e2⟩
   ·rcases old j b hj with hj | ⟨e,e2⟩
    ·exact hO.late i j a b hij hi hj hc
    rw[e2,a1]at hc;have hE:=hO.each a (Zy hi);have hna:a.ans≠-1:=by
     intro q;obtain⟨k',m1,e1,e2,e3,_⟩:=hO.opn i a hi q;have:k'=k:=by omega
     subst this;rw[hk]at e2;obtain rfl:=Zgm e2;exact e3 h0
    refine⟨hna,?_⟩;rw[e2,a2];have hd:a.dec≠-1:=fun q=>hna (hE.d0 q)
    have:=hE.d1 hd;omega
   rcases old j b hj with hj | ⟨e',_⟩
   ·have:=lt_of hj;omega
   omega
  intro i j a b hi hj hd he;rcases old i a hi with hi | ⟨e,e2⟩
  ·rcases old j b hj with hj | ⟨_,e2⟩
   ·exact hO.dsa i j a b hi hj hd he
   rw[e2,a4]at he;exact absurd he hd
  rw[e2,a4]at hd;exact absurd rfl hd
 rw[Cq (Zvc a3)];refine hr.congr fun i hi o ho=>⟨o,?_,.refl o⟩
 rw[Ze (lt_of ho)];exact ho
theorem Zta.step(hO:Zta cl ms os last t)(ht:0≤t){k z:Nat}{m m':Wc}{o o':Opn}(hk:ms[k]?=some m)(hz:last[k]?=some (z:Int))(ho:os[z]?=some o)(hcur:Zkd k m o)
 (c:o'.cl=o.cl) (b:o'.begun=o.begun) (A:m'.st≠0→Zkd k m' o') (E:Pe cl (t+1) o') (D:o'.dec≠-1→o'.dec=o.dec∨o'.dec=t) (N:o'.ans = -1→m'.st≠0) (G:o'.ans≠-1→o'.ans=t) :
 Zta cl (ms.set k m') (os.set z o') last (t+1):=by
 have hkl:=(Zr.1 hk).1;have hzl:=(Zr.1 ho).1;refine⟨by simp[hO.len],?_,?_,?_,?_,?_,?_,?_⟩
 ·intro j q y hj hy hs;rcases We hj with⟨e,e2⟩ | ⟨e,hj⟩
  ·subst e e2;rw[hz]at hy;obtain rfl:=Zgm hy;exact⟨z,o',rfl,Zc hzl,A hs⟩
  obtain⟨zn,p,e1,e2,e3⟩:=hO.cur j q y hj hy hs;refine⟨zn,p,e1,?_,e3⟩;have hne:z≠zn:=by
   intro e4;subst e4;rw[ho]at e2;obtain rfl:=Zgm e2;have h1:=e3.cl;have h2:=hcur.cl;omega
  rw[Zb hne];exact e2
 ·intro i p hi ha;rcases We hi with⟨e,e2⟩ | ⟨e,hi⟩
  ·subst e e2;exact⟨k,m',by rw[c,hcur.cl],Zc hkl,N ha,hz⟩
  obtain⟨k',m1,e1,e2,e3,e4⟩:=hO.opn i p hi ha;have hne:k≠k':=by
   intro e5;subst e5;rw[hz]at e4;have:=Zgm e4;omega
  exact⟨k',m1,e1,by rw[Zb hne];exact e2,e3,e4⟩
 ·intro p hp;obtain⟨i,hi⟩:=Zgd hp;rcases We hi with⟨_,e2⟩ | ⟨_,hi⟩
  ·rw[e2];exact E
  exact(hO.each p (Zy hi)).up
 ·intro i j a q hij hi hj;rcases We hi with⟨e,e2⟩ | ⟨e,hi1⟩
  ·rcases We hj with⟨e',_⟩ | ⟨_,hj1⟩
   ·omega
   subst e e2;rw[b];exact hO.inc i j o q hij ho hj1
  rcases We hj with⟨e',e2⟩ | ⟨_,hj1⟩
  ·subst e' e2;rw[b];exact hO.inc i j a o hij hi1 ho
  exact hO.inc i j a q hij hi1 hj1
 ·intro i j a q hi hj hd he;rcases We hi with⟨e,e2⟩ | ⟨e,hi1⟩
  ·rcases We hj with⟨e',_⟩ | ⟨_,hj1⟩
   ·omega
   subst e e2;rcases D hd with h1|h1
   ·exact hO.dst i j o q ho hj1 (by rw[← h1];exact hd) (by rw[← h1];exact he)
   have hq:=(hO.each q (Zy hj1)).d1 (by omega);omega
  rcases We hj with⟨e',e2⟩ | ⟨_,hj1⟩
  ·subst e' e2;rcases D (by omega)with h1|h1
   ·exact hO.dst i j a o hi1 ho hd (by rw[← h1];exact he)
   have hq:=(hO.each a (Zy hi1)).d1 hd;omega
  exact hO.dst i j a q hi1 hj1 hd he
 ·intro i j a q hij hi hj hc;rcases We hi with⟨e,e2⟩ | ⟨e,hi1⟩
  ·rcases We hj with⟨e',_⟩ | ⟨_,hj1⟩
   ·omega
   subst e e2;exact absurd hcur.ans (hO.late i j o q hij ho hj1 (by rw[← c];exact hc)).1
  rcases We hj with⟨e',e2⟩ | ⟨_,hj1⟩
  ·subst e' e2;rw[b];exact hO.late i j a o hij hi1 ho (by rw[← c];exact hc)
  exact hO.late i j a q hij hi1 hj1 hc
 intro i j a q hi hj hd he;rcases We hi with⟨e,e2⟩ | ⟨e,hi1⟩
 ·rcases We hj with⟨e',_⟩ | ⟨_,hj1⟩
  ·omega
  subst e e2;have h1:=G hd;have hE:=hO.each q (Zy hj1);have hq:=hE.d1 fun e=>by have:=hE.d0 e;omega
  omega
 rcases We hj with⟨e',e2⟩ | ⟨_,hj1⟩
 ·subst e' e2;have h1:=G (by omega);have hE:=hO.each a (Zy hi1);have hq:=hE.d1 fun e=>hd (hE.d0 e)
  omega
 exact hO.dsa i j a q hi1 hj1 hd he
theorem Zz1.keep{st:RSt}(hr:Zz1 cl cp os (Us os) st){z:Nat}{o o':Opn}(ho:os[z]?=some o)(hd:o'.dec=o.dec)(hs:o.dec≠-1→Zvn o o'):Zz1 cl cp (os.set z o') (Us (os.set z o')) st:=by
 rw[Cq (os:=os) fun i=>by
  rw[Ux ho];split
  ·rename_i e;rw[e,Jk ho,hd]
  rfl]
 refine hr.congr fun i hi q hq=>?_
 by_cases e:i=z
 ·subst e;rw[ho]at hq;obtain rfl:=Zgm hq;refine⟨o',Zc (Zr.1 ho).1,hs fun e=>?_⟩;have:=((Kb os).mem i).1 hi;unfold Pm at this;rw[Jk ho,e]at this;simp at this
 exact⟨q,by rw[Zb (fun q=>e q.symm)];exact hq,.refl q⟩
theorem Zz1.more{st:RSt}(hr:Zz1 cl cp os (Us os) st)(hE:∀ o∈os,Pe cl t o)(ht:0≤t){z:Nat}{o o':Opn}(ho:os[z]?=some o)(h0:o.dec = -1)(hd:o'.dec=t)(he:(Ud cl cp st o').1=0):Zz1 cl cp (os.set z o') (Us (os.set z o')) (Ud cl cp st o').2:=by
 have hz:z ∉ Us os:=fun hi=>by
  have:=((Kb os).mem z).1 hi;unfold Pm at this;rw[Jk ho,h0]at this;simp at this
 rw[Zq3 ho h0 (by omega) fun i hi=>by
  have hl:=Fy hi;have e:os[i]?=some os[i]:=Zz hl;rw[Jk e,hd];unfold Pm at hi;rw[Jk e]at hi;exact((hE _ (Zy e)).d1 (by simpa using hi)).2.1]
 refine(hr.congr fun i hi q hq=>⟨q,?_,.refl q⟩).snoc z o' (Zc (Zr.1 ho).1) he;rw[Zb (fun e=>hz (by rw[e];exact hi))];exact hq
theorem Lin.step(h:Lin cl cp x ms os last t)(ht:0≤t){k z:Nat}{s:Int}{m m':Wc}{x':Shr}{o o':Opn}(hk:ms[k]?=some m)(h0:m.st≠0)(hs:K7 m x s m' x')(ok:MOk m')(hz:last[k]?=some (z:Int))(ho:os[z]?=some o)(hop:OpR t m s m' o o') :
 Lin cl cp x' (ms.set k m') (os.set z o') last (t+1):=by
 obtain⟨hcp,M,hX,hO,st,hr,hM,hck⟩:=h;obtain⟨M',hX',hsame,hdec⟩:=hX.any hk ok hcp hs;have k0:=hX.mok m (Zy hk);have s0:=k0.s0;have s1:=k0.s1;have hE:=hO.each o (Zy ho);obtain⟨zn,oo,e1,e2,hcur⟩:=hO.cur k m z hk hz h0;obtain rfl:zn=z:=by omega
 rw[ho]at e2;obtain rfl:=Zgm e2;clear e1 e2;have hkc:=(hX.cli k m hk).1;have calm:o'=o→x'.cp=x.cp→x'.clock=x.clock→m.st≠4→m'.st≠0→(m'.st≤4→m.st≤4)→(5≤m'.st→5≤m.st)→(2≤m'.st→m'.st≤4→2≤m.st∧m'.op=m.op∧m'.ttl=m.ttl∧m'.ns=m.ns)→Lin cl cp x' (ms.set k m') (os.set zn o') last (t+1):=by
  rintro rfl q1 q2 q3 q4 q5 q6 q7;refine⟨by rw[q1];exact hcp,M',hX',hO.step ht hk hz ho hcur rfl rfl (fun _=>⟨hcur.cl,hcur.ans,fun q=>hcur.und (q5 q),fun q=>hcur.dcd (q6 q),fun a b=>?_⟩) hE.up (fun _=>.inl rfl) (fun _=>q4) (fun q=>absurd hcur.ans q),st,hr.keep ho rfl (fun _=>.refl _),by rw[hM,hsame q3],by rw[q2];exact hck⟩;obtain⟨a1,a2,a3,a4⟩:=q7 a b;rw[a2,a3,a4];exact hcur.req a1 (q5 b)
 have decides:o'={o with dec:=t,res:=m'.ans,bad:=o.bad}→m.st=4→x'.cp=x.cp→x'.clock=x.clock→5≤m'.st→m'.st≠0→Lin cl cp x' (ms.set k m') (os.set zn o') last (t+1):=by
  rintro e q4 q1 q2 q5 q0;obtain⟨d0,b0⟩:=hcur.und (by omega);obtain⟨r1,r2,r3⟩:=hcur.req (by omega) (by omega);obtain⟨g1,g2⟩:=hdec q4;have hres:(doR cl cp M m.cl m.op m.ttl x.clock m.ns).tick=x.clock:=by
   have hp:=hX.proper hk q4;unfold doR;rw[Zgn hp];exact F8 _ _ _ _ _ _ _
  have htick:Lj st o'≤x.clock:=by
   subst e;unfold Lj;split
   ·simp only;rw[g2,hres];exact Zfn _
   exact hck
  have hstep:Ud cl cp st o'=(0,M',x.clock,Er st o'):=by
   obtain⟨T,hT⟩:=gnX (Lj st o');rw[hT]at htick;have hperf:Ph cl cp st.1 T o'=(0,M',x.clock):=by
    subst e;unfold Ph;rw[Zgq (by simp[b0])];simp only;rw[g2,hres,Zgq (by omega),r1,r2,r3,hcur.cl,← hkc,hM,Oi,← g1];rfl
   unfold Ud;rw[hT,hperf]
  have hO':Zta cl (ms.set k m') (os.set zn o') last (t+1):=by
   subst e;refine hO.step ht hk hz ho hcur rfl rfl (fun _=>⟨hcur.cl,hcur.ans,fun q=>by omega,fun _=>by simp only;omega,fun a b=>by omega⟩) ⟨hE.c0,hE.c1,hE.b0,by have:=hE.b1;simp only;omega,fun q=>hcur.ans,fun _=>⟨hE.b1,by simp only;omega,.inl hcur.ans⟩⟩ (fun _=>.inr rfl) (fun _=>q0) (fun q=>absurd hcur.ans q)
  refine⟨by rw[q1];exact hcp,M',hX',hO',_,hr.more hO.each ht ho d0 (by rw[e]) (by rw[hstep]),by rw[hstep],by rw[hstep,q2];exact Zfn _⟩
 unfold OpR at hop;have es:=fun(q:Wc) l nx=>Qj (m:=q) (l:=l) (nx:=nx)
 cases hs with
 | idle e1=>exact absurd e1 h0
 | bad _ e1 e2 ec ei en ea =>
  rw[Zgn rfl,Zgn e1]at hop;obtain⟨d0,b0⟩:=hcur.und (by omega);have hstep:Ud cl cp st o'=(0,st.1,st.2.1,Er st o'):=by
   subst hop;have ht':Lj st {o with dec:=t,res:=m'.ans,bad:=m'.ans}=st.2.1:=by
    unfold Lj;rw[Zgq (fun q=>ea q.2)]
   unfold Ud;rw[ht'];unfold Ph;rw[Zgn ea];simp[Oi]
  have hO':Zta cl (ms.set k m') (os.set zn o') last (t+1):=by
   subst hop;refine hO.step ht hk hz ho hcur rfl rfl (fun _=>⟨hcur.cl,hcur.ans,fun q=>by omega,fun _=>by simp only;omega,fun a b=>by omega⟩) ⟨hE.c0,hE.c1,hE.b0,by have:=hE.b1;simp only;omega,fun q=>hcur.ans,fun _=>⟨hE.b1,by simp only;omega,.inl hcur.ans⟩⟩ (fun _=>.inr rfl) (fun _=>by omega) (fun q=>absurd hcur.ans q)
  refine⟨hcp,M',hX',hO',_,hr.more hO.each ht ho d0 (by rw[hop]) (by rw[hstep]),by rw[hstep,hsame (by omega)];exact hM,by rw[hstep];exact hck⟩
 | req _ e1 e2 ec ei er =>
  rw[Zgq (by omega),Zgq (by omega),Zgn e1]at hop;obtain⟨v,hop⟩:=hop;obtain⟨d0,b0⟩:=hcur.und (by omega);have hO':Zta cl (ms.set k m') (os.set zn o') last (t+1):=by
   subst hop;exact hO.step ht hk hz ho hcur rfl rfl (fun _=>⟨hcur.cl,hcur.ans,fun _=>⟨d0,b0⟩,fun q=>by omega,fun _ _=>⟨rfl,rfl,rfl⟩⟩) ⟨hE.c0,hE.c1,hE.b0,by have:=hE.b1;simp only;omega,fun q=>hcur.ans,fun q=>absurd d0 q⟩ (fun _=>.inl rfl) (fun _=>by omega) (fun q=>absurd hcur.ans q)
  exact⟨hcp,M',hX',hO',st,hr.keep ho (by rw[hop]) (fun q=>absurd d0 q),by rw[hM,hsame (by omega)],hck⟩
 | block n c e1 =>
  rw[Zgq (by omega),Zgq (by omega),Zgq (by omega)]at hop;exact calm hop rfl rfl (by omega) h0 id id fun a b=>⟨a,rfl,rfl,rfl⟩
 | lock n c v e1 ei hn hfree =>
  rw[Zgq (by omega),Zgq (by omega),Zgq (by omega)]at hop;rcases es m m.ns.length 3 with⟨_,e⟩ | ⟨_,e⟩<;>rw[e]at calm⊢<;>refine calm hop rfl rfl (by omega) ?_ ?_ ?_ ?_<;>simp only<;>intros<;>first|omega|(refine⟨by omega,?_,?_,?_⟩<;>first|trivial|rfl)
 | read n c v e1 ei hn =>
  rw[Zgq (by omega),Zgq (by omega),Zgq (by omega)]at hop;rcases es {m with rv:=v,rs:=m.rs++[Xd x.rs n.k]} m.ns.length 4 with⟨_,e⟩ | ⟨_,e⟩<;>rw[e]at calm⊢<;>refine calm hop rfl rfl (by omega) ?_ ?_ ?_ ?_<;>simp only<;>intros<;>first|omega|(refine⟨by omega,?_,?_,?_⟩<;>first|trivial|rfl)
 | stay e1 he =>
  rw[Zgn rfl,Zgq (by omega)]at hop;exact decides hop e1 rfl rfl (by simp) (by simp)
 | go e1 he hq =>
  rw[Zgn rfl,Zgq (by omega)]at hop;exact decides hop e1 rfl rfl (by simp) (by simp)
 | write n r c D v e1 ei hn hr hD =>
  rw[Zgq (by omega),Zgq (by omega),Zgq (by omega)]at hop;rcases es m m.ns.length 6 with⟨_,e⟩ | ⟨_,e⟩<;>rw[e]at calm⊢<;>refine calm hop rfl rfl (by omega) ?_ ?_ ?_ ?_<;>simp only<;>intros<;>first|omega|(refine⟨by omega,?_,?_,?_⟩<;>first|trivial|rfl)
 | free n c v e1 ei hn =>
  rw[Zgq (by omega),Zgq (by omega),Zgq (by omega)]at hop;rcases es m m.ns.length 7 with⟨_,e⟩ | ⟨_,e⟩<;>rw[e]at calm⊢<;>refine calm hop rfl rfl (by omega) ?_ ?_ ?_ ?_<;>simp only<;>intros<;>first|omega|(refine⟨by omega,?_,?_,?_⟩<;>first|trivial|rfl)
 | reply e1 =>
  rw[Zgq (by omega),Zgn rfl]at hop;have d0:=hcur.dcd (by omega);have hO':Zta cl (ms.set k {m with st:=0}) (os.set zn o') last (t+1):=by
   subst hop;have hd:=hE.d1 d0;exact hO.step ht hk hz ho hcur rfl rfl (fun q=>absurd rfl q) ⟨hE.c0,hE.c1,hE.b0,by have:=hE.b1;simp only;omega,fun q=>absurd q d0,fun _=>⟨hd.1,by have:=hd.2.1;simp only;omega,.inr ⟨hd.2.1,by simp only;omega⟩⟩⟩ (fun _=>.inl rfl) (fun q=>by simp only at q;omega) (fun _=>rfl)
  exact⟨hcp,M',hX',hO',st,hr.keep ho (by rw[hop]) (fun _=>by rw[hop];exact⟨rfl,rfl,rfl,rfl,rfl,rfl⟩),by rw[hM,hsame (by omega)],hck⟩
end
section
variable {cl cp t:Int} {x:Shr} {ms:List Wc} {os:List Opn} {last:List Int}
theorem Lin.tick(h:Lin cl cp x ms os last t){c:Int}(h0:x.clock≤c)(h1:c≤1073741824):Lin cl cp {x with clock:=c} ms os last (t+1):=by
 obtain⟨hcp,M,hX,hO,st,hr,hM,hck⟩:=h;exact⟨hcp,M,⟨hX.cli,hX.mok,hX.req,hX.lck,hX.asc,hX.nz,hX.cnt,hX.rcd,hX.pnd,hX.tck,hX.rd,by have:=hX.clk.1;simp only;omega,h1⟩,hO.up,st,hr,hM,by simp only;omega⟩
theorem Lin.start(hms:∀ (k:Nat) m,ms[k]?=some m→m.cl=(k:Int)∧(k:Int)<cl∧MOk m∧m.st=0)(hl:last.length=ms.length)(c0:x.clock=0)(s0:x.sum=0)(r0:x.rs=[])(hcp:x.cp=cp):Lin cl cp x ms [] last 0:=by
 have at_:∀ m∈ms,MOk m∧m.st=0:=fun m hm=>by
  obtain⟨k,hk⟩:=Zgd hm;exact(hms k m hk).2.2
 refine⟨hcp,[],⟨fun k m hk=>⟨(hms k m hk).1,(hms k m hk).2.1⟩,fun m hm=>(at_ m hm).1,fun m hm q=>?_,?_,List.Pairwise.nil,fun p hp=>by simp at hp,by rw[s0];rfl,fun κ _=>by rw[r0],fun m hm j n r _ _ hp=>?_,fun m hm q=>?_,fun m hm q=>?_,by omega⟩,⟨hl,fun k m z hk _ q=>absurd (hms k m hk).2.2.2 q,by simp,by simp,by simp,by simp,by simp,by simp⟩,([],0,true),?_,rfl,by simp[c0]⟩
 ·have:=(at_ m hm).2;omega
 ·rintro k m κ hk ⟨j,n,hn,_,q⟩;have:=(hms k m hk).2.2.2;exfalso;rcases q with⟨q,_⟩ | ⟨q,_⟩ | ⟨q,_⟩<;>omega
 ·have:=(at_ m hm).2;have:=hp.1;omega
 ·have:=(at_ m hm).2;omega
 ·have:=(at_ m hm).2;omega
 have:Us []=[]:=List.length_eq_zero_iff.1 (Nat.le_zero.1 (Zwf []));rw[this];exact .nil
end
end
