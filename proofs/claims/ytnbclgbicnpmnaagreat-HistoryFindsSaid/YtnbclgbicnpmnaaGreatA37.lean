/- Lemmas of this claim: Prg, Dq, Fnd. Conditions: as named. -/
import Derived.Test.YtnbclgbicnpmnaaGreatA33
import Derived.Test.YtnbclgbicnpmnaaGreatA36
namespace Go.Proofs.YtnbclgbicnpmnaaGreat
open Go.RowKit Go.Sort Tryz
set_option maxHeartbeats 0
set_option maxRecDepth 100000
set_option linter.all false
def Zvd(x:Shr)(ms:List Wc):Prop:=∀ κ,(Xg x.ks κ).st=1→∃ (k:Nat) (m:Wc),ms[k]?=some m∧Q5 m κ
theorem Zvd.step{x x':Shr}{ms:List Wc}{k:Nat}{m m':Wc}{s:Int}(h:Zvd x ms)(hk:ms[k]?=some m)(k0:MOk m)(hr:Kc m x s m' x'):Zvd x' (ms.set k m'):=by
 have put:∀ {κ},Q5 m' κ→∃ (j:Nat) (q:Wc),(ms.set k m')[j]?=some q∧Q5 q κ:=fun hl=>⟨k,m',Zc (Zr.1 hk).1,hl⟩
 have old:∀ κ,(Xg x.ks κ).st=1→(Q5 m κ→Q5 m' κ)→∃ (j:Nat) (q:Wc),(ms.set k m')[j]?=some q∧Q5 q κ:=fun κ h1 hm=>by
  obtain⟨j,q,hq,hl⟩:=h κ h1;by_cases e:j=k
  ·subst e;rw[hk]at hq;obtain rfl:=Zjy hq;exact put (hm hl)
  exact⟨j,q,by rw[Zb (fun q=>e q.symm)];exact hq,hl⟩
 have none1:∀ {κ},(m.st=0∨m.st=1∨m.st=7)→¬ Q5 m κ:=fun hs ⟨j,n,_,_,hj⟩=>by
  rcases hj with⟨q,_⟩ | ⟨q,_⟩ | ⟨q,_⟩<;>omega
 have es:=fun(q:Wc) l nx=>Qi (m:=q) (l:=l) (nx:=nx)
 cases hr with
 | idle e=>rw[set_self hk];exact h
 | block n c e=>rw[set_self hk];exact h
 | bad _ e=>exact fun κ h1=>old κ h1 fun hl=>absurd hl (none1 (.inr (.inl e)))
 | req _ e=>exact fun κ h1=>old κ h1 fun hl=>absurd hl (none1 (.inr (.inl e)))
 | reply e=>exact fun κ h1=>old κ h1 fun hl=>absurd hl (none1 (.inr (.inr e)))
 | stay e _ =>
  have hi:=k0.i4 e;refine fun κ h1=>old κ h1 ?_
  rintro⟨j,n,hn,eκ,_⟩;exact⟨j,n,hn,eκ,.inr (.inr ⟨rfl,by simp only;omega⟩)⟩
 | go e _ _ =>
  refine fun κ h1=>old κ h1 ?_
  rintro⟨j,n,hn,eκ,_⟩;exact⟨j,n,hn,eκ,.inr (.inl (by simp only;omega))⟩
 | read n c v e ei hn =>
  refine fun κ h1=>old κ h1 ?_
  rintro⟨j,n',hn',eκ,_⟩;rcases es {m with rv:=v,rs:=m.rs++[Xg x.rs n.k]} m.ns.length 4 with⟨_,e'⟩ | ⟨_,e'⟩<;>rw[e']
  ·exact⟨j,n',hn',eκ,.inr (.inl (by simp only;omega))⟩
  exact⟨j,n',hn',eκ,.inr (.inl (by simp only;omega))⟩
 | write n r c D v e ei hn hr hD =>
  refine fun κ h1=>old κ h1 ?_
  rintro⟨j,n',hn',eκ,_⟩;rcases es m m.ns.length 6 with⟨_,e'⟩ | ⟨_,e'⟩<;>rw[e']
  ·exact⟨j,n',hn',eκ,.inr (.inr ⟨rfl,by simp only;omega⟩)⟩
  exact⟨j,n',hn',eκ,.inr (.inl (by simp only;omega))⟩
 | lock n c v e ei hn hfree =>
  intro κ h1;simp only at h1;by_cases hκ:κ=n.k
  ·subst hκ;refine put ?_;rcases es m m.ns.length 3 with⟨_,e'⟩ | ⟨_,e'⟩<;>rw[e']
   ·exact⟨c,n,hn,rfl,.inr (.inl (by simp only;omega))⟩
   exact⟨c,n,hn,rfl,.inl ⟨e,by simp only;omega⟩⟩
  rw[Wg _ hκ]at h1;refine old κ h1 ?_;rintro⟨j,n',hn',eκ,hj⟩;have hj2:(j:Int)<m.i:=by
   rcases hj with⟨_,q⟩ | ⟨q,_⟩ | ⟨q,_⟩
   ·exact q
   ·omega
   omega
  rcases es m m.ns.length 3 with⟨_,e'⟩ | ⟨_,e'⟩<;>rw[e']
  ·exact⟨j,n',hn',eκ,.inr (.inl (by simp only;omega))⟩
  exact⟨j,n',hn',eκ,.inl ⟨e,by simp only;omega⟩⟩
 | free n c v e ei hn =>
  intro κ h1;simp only at h1;by_cases hκ:κ=n.k
  ·subst hκ;rw[Jy,Zjx rfl]at h1;exact absurd h1 (by decide)
  rw[Wg _ hκ]at h1;refine old κ h1 ?_;rintro⟨j,n',hn',eκ,hj⟩;have hj2:m.i≤(j:Int):=by
   rcases hj with⟨q,_⟩ | ⟨q,q'⟩ | ⟨_,q⟩
   ·omega
   ·omega
   exact q
  have hne:j≠c:=by
   rintro rfl;rw[hn]at hn';obtain rfl:=Zjy hn';exact hκ eκ.symm
  have hlt:=(Zr.1 hn').1;rcases es m m.ns.length 7 with⟨q,e'⟩ | ⟨q,e'⟩
  ·omega
  rw[e'];exact⟨j,n',hn',eκ,.inr (.inr ⟨e,by simp only;omega⟩)⟩
def Gg(x:Shr)(m:Wc)(n:Nm):Prop:=m.st=2∧∃ c:Nat,m.i=(c:Int)∧m.ns[c]?=some n∧0≤Zpc (Xg x.ks n.k)
theorem Zrb{x:Shr}{m:Wc}{a b:Nm}(h1:Gg x m a)(h2:Gg x m b):a=b:=by
 obtain⟨_,c,hc,hn,_⟩:=h1;obtain⟨_,d,hd,hm,_⟩:=h2;have:c=d:=by omega
 subst this;rw[hn]at hm;exact Zjy hm
theorem Zvr{x:Shr}{ms:List Wc}(hL:Zvd x ms)(hS:∀ m∈ms,m.st=2→srt m.ns=true)(hw:∀ m∈ms,m.st≠0→∃ n,Gg x m n):∀ m∈ms,m.st=0:=by
 classical
 let F:List UInt8→Nat:=fun κ=>ms.countP fun m=>decide (∃ n,Gg x m n∧κ<kb n.k)
 have key:∀ N:Nat,∀ m∈ms,∀ n,Gg x m n→F (kb n.k)=N→False:=by
  intro N
  induction N using Nat.strongRecOn with
  | _ N ih =>
   intro m hm n hn hF;obtain⟨hs,c,hc,hnc,ho⟩:=hn;have hst:(Xg x.ks n.k).st=1:=by
    unfold Zpc at ho;split at ho
    ·assumption
    omega
   obtain⟨j,q,hq,hl⟩:=hL n.k hst;have hqm:=Zy hq;have hq0:q.st≠0:=by
    obtain⟨_,_,_,_,hj⟩:=hl;rcases hj with⟨a,_⟩ | ⟨a,_⟩ | ⟨a,_⟩<;>omega
   obtain⟨n2,hn2⟩:=hw q hqm hq0;have hn2':=hn2;obtain⟨hs2,d,hd,hnd,_⟩:=hn2;obtain⟨i,n3,hn3,e3,hj⟩:=hl;have hid:i<d:=by
    rcases hj with⟨_,a⟩ | ⟨a,_⟩ | ⟨a,_⟩<;>omega
   have hlt:kb n.k<kb n2.k:=by
    have hp:=Zxr (hS q hqm hs2);obtain⟨i1,rfl⟩:=Zr.1 hn3;obtain⟨d1,rfl⟩:=Zr.1 hnd;have:=Zjh.1 hp i d i1 d1 hid;unfold Jk at this;rw[e3]at this;exact this
   refine ih (F (kb n2.k)) ?_ q hqm n2 hn2' rfl;rw[← hF];show ms.countP _<ms.countP _;have hle:∀ l:List Wc,q∈l→l.countP (fun m=>decide (∃ n,Gg x m n∧kb n2.k<kb n.k))<l.countP (fun m=>decide (∃ a,Gg x m a∧kb n.k<kb a.k)):=by
    have mono:∀ l:List Wc,l.countP (fun m=>decide (∃ n,Gg x m n∧kb n2.k<kb n.k))≤l.countP (fun m=>decide (∃ a,Gg x m a∧kb n.k<kb a.k)):=fun l =>
     List.countP_mono_left fun a _ h=>by
      simp only[Zjm]at h⊢;obtain⟨b,h1,h2⟩:=h;exact⟨b,h1,Zh7 hlt h2⟩
    intro l
    induction l with
    | nil=>intro h;simp at h
    | cons a l ih2 =>
     intro hmem;rw[Zi7,Zi7];rcases Zg.1 hmem with rfl|hmem
     ·have h1:decide (∃ n,Gg x q n∧kb n2.k<kb n.k)=false:=Yg (by
       rintro⟨b,h1,h2⟩;rw[Zrb h1 hn2']at h2;exact Zhz _ h2)
      have h2:decide (∃ a,Gg x q a∧kb n.k<kb a.k)=true:=Yf ⟨n2,hn2',hlt⟩;rw[h1,h2];have:=mono l;simp;omega
     have h1:=ih2 hmem;have h2:(if decide (∃ n,Gg x a n∧kb n2.k<kb n.k)=true then 1 else 0)≤(if decide (∃ b,Gg x a b∧kb n.k<kb b.k)=true then 1 else 0:Nat):=by
      split
      ·rename_i h;have h3:decide (∃ b,Gg x a b∧kb n.k<kb b.k)=true:=by
        simp only[Zjm]at h⊢;obtain⟨b,h1,h2⟩:=h;exact⟨b,h1,Zh7 hlt h2⟩
       rw[Zjx h3];exact Yn _
      omega
     omega
   exact hle ms hqm
 intro m hm;refine Zik fun h0=>?_
 obtain⟨n,hn⟩:=hw m hm h0;exact key _ m hm n hn rfl
def rank(m:Wc):Nat:=if m.st=0 then 0 else if m.st=7 then 17 else((8-m.st)*17-m.i).toNat
theorem Qs{m:Wc}(h0:m.st≠0)(h7:m.st≠7):rank m=((8-m.st)*17-m.i).toNat:=by unfold rank;rw[Zk9 h0,Zk9 h7]
theorem Zsc{m:Wc}(h:m.st=7):rank m=17:=by unfold rank;rw[Zk9 (by omega),Zjx h]
theorem Zsb{m m':Wc}{x x':Shr}{s:Int}(k0:MOk m)(h0:m.st≠0)(hr:Kc m x s m' x')(hs:s≠2):rank m'<rank m:=by
 have n0:=k0.n0;have i4:=k0.i4;have e2:=k0.e2;have es:=fun(q:Wc) l nx=>Qi (m:=q) (l:=l) (nx:=nx)
 cases hr with
 | idle e=>exact absurd e h0
 | block n c e=>exact absurd rfl hs
 | bad _ e1 e2' _ ei =>
  have:=(e2 (by omega) (by omega)).2 e1;rw[Zsc e2',Qs h0 (by omega)];omega
 | req _ e1 e2' _ ei =>
  have:=(e2 (by omega) (by omega)).2 e1;rw[Qs (by omega) (by omega),Qs h0 (by omega)];omega
 | reply e=>rw[Zsc e];exact Zk8 (by decide:0<17) (Yn _)
 | stay e _ =>
  have:=i4 e;rw[Qs (by simp) (by simp),Qs h0 (by omega)];simp only;omega
 | go e _ _ =>
  have:=i4 e;rw[Qs (by simp) (by simp),Qs h0 (by omega)];simp only;omega
 | read n c v e ei hn =>
  have:=n0 (by omega) (by omega);rw[Qs h0 (by omega)];rcases es {m with rv:=v,rs:=m.rs++[Xg x.rs n.k]} m.ns.length 4 with⟨q,e'⟩ | ⟨q,e'⟩<;>rw[e',Qs (by simp only;omega) (by simp only;omega)]<;>simp only at q⊢<;>omega
 | write n r c D v e ei hn hr hD =>
  have:=n0 (by omega) (by omega);have:=k0.n0 (by omega) (by omega);rw[Qs h0 (by omega)];rcases es m m.ns.length 6 with⟨q,e'⟩ | ⟨q,e'⟩<;>rw[e',Qs (by simp only;omega) (by simp only;omega)]<;>simp only at q⊢<;>omega
 | lock n c v e ei hn hfree =>
  have:=n0 (by omega) (by omega);rw[Qs h0 (by omega)];rcases es m m.ns.length 3 with⟨q,e'⟩ | ⟨q,e'⟩<;>rw[e',Qs (by simp only;omega) (by simp only;omega)]<;>simp only at q⊢<;>omega
 | free n c v e ei hn =>
  have:=n0 (by omega) (by omega);rw[Qs h0 (by omega)];rcases es m m.ns.length 7 with⟨q,e'⟩ | ⟨q,e'⟩<;>rw[e']
  ·rw[Zsc rfl];omega
  rw[Qs (by simp only;omega) (by simp only;omega)];simp only at q⊢;omega
theorem Az{α:Type}(f:α→Nat):∀ {l:List α} {k:Nat} {a b:α},l[k]?=some a→((l.set k b).map f).sum+f a=(l.map f).sum+f b
 | [],_,_,_,h=>by simp at h
 | x::l,0,a,b,h=>by
  obtain rfl:x=a:=by simpa using h
  simp;omega
 | x::l,k+1,a,b,h=>by
  have:=Az f (l:=l) (k:=k) (a:=a) (b:=b) (by simpa using h);simp only[Zt,Zj0,List.sum_cons];omega
theorem Zo5{α:Type}(f:α→Nat)(N:Nat):∀ {l:List α},(∀ a∈l,f a≤N)→(l.map f).sum≤N*l.length
 | [],_=>by simp
 | x::l,h=>by
  have:=Zo5 f N (l:=l) fun a ha=>h a (by simp[ha])
  have:=h x (by simp);simp only[Zj0,List.sum_cons,Zl,Nat.mul_add,Zgk];omega
theorem Zm6{m:Wc}(h:MOk m):rank m≤136:=by
 unfold rank;split
 ·omega
 split
 ·omega
 have:=h.s0;have:=h.s1;have n0:=h.n0;have e2:=h.e2;rename_i a b;rcases(show m.st=1∨2≤m.st∧m.st≤6 by omega)with q | ⟨q1,q2⟩
 ·have:=(e2 (by omega) (by omega)).2 q;omega
 have:=n0 q1 q2;omega
def work(ms:List Wc)(bs:List (List ByteArray)):Nat:=(ms.map rank).sum+136*(bs.map List.length).sum
def Zx0(x:Shr)(ms:List Wc)(bs:List (List ByteArray))(n:Nat)(k:Nat):Prop :=
 ∃ m,ms[k]?=some m∧(m.st=0∧(bs[k]?=some []∨4096≤n)∨∃ a,Gg x m a)
theorem Zpl{x:Shr}{ms:List Wc}{bs:List (List ByteArray)}{n:Nat}(hL:Zvd x ms)(hS:∀ m∈ms,m.st=2→srt m.ns=true)(hn:n<4096)
 (h:∀ (k:Nat) m,ms[k]?=some m→(m.st≠0∨∃ y l,bs[k]?=some (y::l))→Zx0 x ms bs n k):∀ (k:Nat) m,ms[k]?=some m→m.st=0∧∀ l,bs[k]?=some l→l=[]:=by
 have h0:=Zvr hL hS fun m hm hs=>by
  obtain⟨k,hk⟩:=Zjr hm;obtain⟨m',hk',h1⟩:=h k m hk (.inl hs);rw[hk]at hk';obtain rfl:=Zjy hk';rcases h1 with⟨q,_⟩|q
  ·exact absurd q hs
  exact q
 intro k m hk;have hm:=h0 m (Zy hk);refine⟨hm,fun l hl=>?_⟩;cases l with
 | nil=>rfl
 | cons y l =>
  obtain⟨m',hk',h1⟩:=h k m hk (.inr ⟨y,l,hl⟩);rw[hk]at hk';obtain rfl:=Zjy hk';rcases h1 with⟨_,q|q⟩ | ⟨a,q⟩
  ·rw[hl]at q;cases q
  ·omega
  have:=q.1;omega
theorem Zvd.new{x:Shr}{ms:List Wc}(h:Zvd x ms){k:Nat}{m m':Wc}(hk:ms[k]?=some m)(h0:m.st=0):Zvd x (ms.set k m'):=fun κ h1=>by
 obtain⟨j,q,hq,hl⟩:=h κ h1;have hne:j≠k:=by
  rintro rfl;rw[hk]at hq;obtain rfl:=Zjy hq;obtain⟨_,_,_,_,hj⟩:=hl;rcases hj with⟨q,_⟩ | ⟨q,_⟩ | ⟨q,_⟩<;>omega
 exact⟨j,q,by rw[Zb (fun e=>hne e.symm)];exact hq,hl⟩
theorem Zvd.none{x:Shr}{ms:List Wc}(h:x.ks=[]):Zvd x ms:=fun κ h1=>by
 rw[h]at h1;exact absurd (show(default:Rc).st=1 from h1) (by decide)
section
variable {cc:Int×Int}
def Znj(cc:Int×Int)(d:Dk)(t:Int):Prop:=Lin cc.1 cc.2 d.x (d.ms.map Prod.snd) (d.ops.map Subtype.val) d.last t∧Zvd d.x (d.ms.map Prod.snd)
def V9(cc:Int×Int)(d:Dk):Prop:=Znj cc d d.t
theorem V9.at_{d:Dk}(h:V9 cc d){j:Nat}{p:Nat×Wc}{z:Int}(h1:d.ms[j]?=some p)(h2:d.last[j]?=some z)(h3:p.2.st≠0):0≤z∧z<d.ops.length:=by
 obtain⟨⟨_,M,_,hO,_⟩,_⟩:=h;obtain⟨zn,o,e1,e2,_⟩:=hO.cur j p.2 z (by rw[Zn,h1];rfl) h2 h3;have:=(Zr.1 e2).1;rw[Zq]at this;omega
theorem V9.up{d:Dk}(h:V9 cc d):Znj cc d ((d.t:Int)+1):=⟨Lin.up h.1,h.2⟩
theorem V9.next{d:Dk}{t1:Nat}(h:Znj cc d ((d.t:Int)+1))(e:d.t+1=t1):V9 cc {d with t:=t1}:=by
 subst e;refine⟨?_,h.2⟩;show Lin _ _ _ _ _ _ ((d.t+1:Nat):Int);rw[show((d.t+1:Nat):Int)=(d.t:Int)+1 by omega];exact h.1
theorem Tk{m:Wc}(h:MOk m)(x:ByteArray):MOk (V0 m.cl x) :=
 ⟨by simp[V0],by simp[V0],h.c0,⟨h.c1.1,KS.nil,Zip _⟩,fun h=>by simp[V0]at h,fun h=>by simp[V0]at h,fun h=>by simp[V0]at h,fun h=>by simp[V0]at h,fun _ _=>⟨rfl,fun _=>rfl⟩⟩
def load(d:Dk):Nat:=d.ops.length+(d.bs_.map List.length).sum
def wrk(d:Dk):Nat:=work (d.ms.map Prod.snd) d.bs_
structure Zuz(cc:Int×Int)(d:Dk)(k:Nat)(r:Bool)(d':Dk):Prop where
 lin:Znj cc d' ((d.t:Int)+1)
 dec:r=true→wrk d'<wrk d
 same:r=false→d'.x=d.x∧d'.ms.map Prod.snd=d.ms.map Prod.snd∧d'.bs_=d.bs_∧d'.ops.length=d.ops.length∧Zx0 d.x (d.ms.map Prod.snd) d.bs_ d.ops.length k
 load:load d'≤load d
theorem Pu{d:Dk}{k:Nat}(h:V9 cc d)(hs:Zx0 d.x (d.ms.map Prod.snd) d.bs_ d.ops.length k):Zuz cc d k false d:=⟨h.up,fun e=>(by cases e),fun _=>⟨rfl,rfl,rfl,rfl,hs⟩,Yn _⟩
def Pj(cc:Int×Int)(U:Nat→Prop)(T:Tbl)(b B:Nat)(d:Dk)(k:Nat)(w:World)(e:Ending)(w':World):Prop :=
 ∃ (r:Bool) (d':Dk) (U':Nat→Prop),e=.returned (.bool r)∧Wt w' U' T b B d'∧Zuz cc d k r d'∧Chg U w w'∧d'.ms.length=d.ms.length∧d'.t=d.t∧d'.n≤d.n+1∧∀ k,U' k→U k∨w.heap.size≤k
theorem Wt.big{w:World}{U:Nat→Prop}{T:Tbl}{b B:Nat}{d:Dk}(h:Wt w U T b B d):B≤w.heap.size:=by
 have:=h.hU b h.ub;omega
theorem Rn{w:World}{S:Nat→Prop}{v:Value}{l:List Nat}{k x:Nat}(h:RdE Zp2 w S v l)(hk:l[k]?=some x):∃ g o c,v=.slice (some ⟨g,o,none⟩) l.length c∧w.cell? ⟨g,o+k,none⟩=some (Zm2 x):=by
 obtain⟨g,o,c,hv,_,_,_,_,hc⟩:=Rd.at_ h (Zr.1 hk).1;exact⟨g,o,c,hv,hc k _ (Zm4 hk)⟩
def Zzq(k t:Int):OpS:=⟨⟨k,0,0,.slice none 0 0,[],⟨0,0,⟨#[]⟩,⟨0,0,⟨#[]⟩,0⟩,0⟩,t,-1,-1,⟨0,0,⟨#[]⟩,⟨0,0,⟨#[]⟩,0⟩,0⟩⟩,rfl⟩
theorem Zme(w:World)(k t:Int)(ty:TypeId)(g:Nat)(hg:w.heap.size=g):RdE opE (w.alloc (.cells (opC (Zzq k t).1).toArray ty)) (fun _=>True) (.slice (some ⟨g,0,none⟩) 1 1) [Zzq k t]:=by
 subst hg;exact Qr w (opC (Zzq k t).1).toArray ty 23 rfl
theorem Zsj{d d':Dk}{k mb:Nat}{m:Wc}{l:List ByteArray}(h:V9 cc d)(hk:d.ms[k]?=some (mb,m))(hs:m.st=0)(ok:MOk m)(x:ByteArray)(hl:d.bs_[k]?=some l)(hx:l[0]?=some x)
 (e1:d'.x=d.x) (e2:d'.ms=d.ms.set k (mb,V0 m.cl x)) (e3:d'.ops=d.ops++[Zzq (k:Int) (d.t:Int)]) (e4:d'.last=d.last.set k (d.ops.length:Int)) (e5:d'.bs_=d.bs_.set k (l.drop 1)):Zuz cc d k true d':=by
 have hkm:(d.ms.map Prod.snd)[k]?=some m:=by rw[Zn,hk];rfl
 have hl1:1≤l.length:=(Zr.1 hx).1;have hsb:=Az List.length (b:=l.drop 1) hl;rw[Yz]at hsb;have hsr:=Az rank (b:=V0 m.cl x) hkm;have r0:rank m=0:=by unfold rank;rw[Zjx hs]
 have r1:rank (V0 m.cl x)≤135:=by rw[Qs (by simp[V0]) (by simp[V0])];simp[V0]
 refine⟨⟨?_,?_⟩,fun _=>?_,fun e=>(by cases e),?_⟩
 ·have:=Lin.new h.1 (by omega) (k:=k) (m:=m) (m':=V0 m.cl x) (o':=(Zzq (k:Int) (d.t:Int)).1) hkm hs rfl rfl (Tk ok x) rfl rfl rfl rfl rfl;rw[Zq]at this;rw[e1,e2,e3,e4,Zi4,Yy];exact this
 ·rw[e1,e2,Zi4];exact h.2.new hkm hs
 ·unfold wrk work;rw[show d'.ms.map Prod.snd=(d.ms.map Prod.snd).set k (V0 m.cl x) by rw[e2,Zi4],e5];omega
 unfold Go.Proofs.YtnbclgbicnpmnaaGreat.load;rw[e3,e5,Zs];simp only[Zj3];omega
theorem Zsl{U:Nat→Prop}(T:Tbl)(b B k mb:Nat)(m:Wc)(d:Dk)(w:World)(h:Wt w U T b B d)(hl:V9 cc d)(hk:d.ms[k]?=some (mb,m))(hs:m.st=0):Calls prog 78 #[.pointer (some ⟨b,0,none⟩),.int .i64 (k:Int)] w (Pj cc U T b B d k w):=by
 have hkl:=(Zr.1 hk).1;obtain⟨nn,hnn⟩:=gnX (d.ms.length);rw[hnn]at hkl;have hn64:nn≤64:=by have:=h.lm;omega
 obtain⟨gm,om,cm,hmv,cmk⟩:=Rn h.ptr (k:=k) (x:=mb) (by rw[Zn,hk];rfl);rw[Zq,hnn]at hmv;have c1:w.cell? ⟨b,1,none⟩=some d.mv:=h.c 1 rfl;rw[hmv]at c1;have hM:=(h.mach _ (Zy hk)).1;have z13:w.cell? ⟨mb,13,none⟩=some (.int .i64 m.st):=hM.c 13 rfl;rw[hs]at z13;have k0:(0:Int)≤(k:Int):=by omega
 have k1:(k:Int)<(nn:Int):=by omega
 obtain⟨s,hsx⟩:∃ s,d.bx[k]?=some s:=⟨d.bx[k]'(by rw[h.lb,hnn];exact hkl),Zz _⟩;obtain⟨l,hlx⟩:∃ l,d.bs_[k]?=some l:=⟨d.bs_[k]'(by rw[h.lbs,hnn];exact hkl),Zz _⟩;obtain⟨hbr,hb8⟩:=h.boxes k s l hsx hlx;obtain⟨sa,sn,sc⟩:=s;obtain⟨_,_,hse,hsc,hscm⟩:=hbr.shape;simp only[Sl.v,Ye]at hse;obtain⟨rfl,hsn,rfl⟩:=hse;have hbx:d.bx.length=nn:=by rw[h.lb];exact hnn
 have c2:w.cell? ⟨b,2,none⟩=some (.slice (some ⟨d.gb,0,none⟩) nn d.cb):=by rw[← hbx];exact h.c 2 rfl
 have ck:w.cell? ⟨d.gb,k,none⟩=some (.slice sa sn sc):=Own.at_ (E:=ssE) h.box (Ir hsx);have c3:w.cell? ⟨b,3,none⟩=some d.ov:=h.c 3 rfl;obtain⟨Ao,Co,hov,_,_⟩:=h.own.shape;obtain⟨no,hno⟩:=gnX (d.ops.length);rw[hno]at hov;rw[hov]at c3;have H:=Y4 h;have Hl:=Y4 hl;have Hk:=Y4 hk;have Hs:=Y4 hs;have Hnn:=Y4 hnn;have Hno:=Y4 hno;have Hov:=Y4 hov;have Hsx:=Y4 hsx;have Hlx:=Y4 hlx;have Hbr:=Y4 hbr;have Hb8:=Y4 hb8;have Hmv:=Y4 hmv;have Hbx:=Y4 hbx;have Hsn:=Y4 hsn;have HMm:=Y4 hM;clear h hl hk hs hnn hmv hM hsx hlx hbr hb8 hov hno hbx hsn;unfold Zm2 at cmk;by_cases hs0:sn=0
 ·have d1:((sn:Int)==0)=true:=by simp[hs0]
  have HSt:=Y4 (show Zx0 d.x (d.ms.map Prod.snd) d.bs_ d.ops.length k from⟨m,by rw[Zn,Hk.o];rfl,.inl ⟨Hs.o,.inl (by rw[Hlx.o,show l=[] from Zjk (by rw[← Hsn.o];exact hs0)])⟩⟩);go_enter func78,ntmps78;go_wp2_with fail;go_ret;exact⟨false,d,U,rfl,H.o,Pu Hl.o HSt.o,Chg.refl _ _,rfl,rfl,by omega,fun _=>.inl⟩
 have d1:((sn:Int)==0)=false:=by simp;omega
 have d1b:(sn==0)=false:=by simp;omega
 by_cases ho:4096≤no
 ·have d2:decide ((4096:Int)≤(no:Int))=true:=Yf;have HSt:=Y4 (show Zx0 d.x (d.ms.map Prod.snd) d.bs_ d.ops.length k from⟨m,by rw[Zn,Hk.o];rfl,.inl ⟨Hs.o,.inr (by rw[Hno.o];exact ho)⟩⟩);go_enter func78,ntmps78;go_wp2_with fail;go_ret;exact⟨false,d,U,rfl,H.o,Pu Hl.o HSt.o,Chg.refl _ _,rfl,rfl,by omega,fun _=>.inl⟩
 have d2:decide ((4096:Int)≤(no:Int))=false:=Yg;obtain⟨x,hx⟩:=geX (l:=l) (i:=0) (by rw[← Hsn.o];omega);have Hx0:=Y4 hx;obtain⟨ga,oa,ca,hse,_,_,hgS,hga,hcc⟩:=Rd.at_ Hbr.o (k:=0) (by rw[← Hsn.o];omega);simp only[Sl.v,Ye]at hse;obtain⟨rfl,-,rfl⟩:=hse;have cx:w.cell? ⟨ga,oa,none⟩=some (.string x):=hcc 0 _ (by show(l.map Value.string)[0]?=_;rw[Zn,hx];rfl);have sn0:(0:Int)<(sn:Int):=by omega
 have sn1:0<sn:=by omega
 go_enter func78,ntmps78;go_wp2_with fail;refine(Zuh T mb m x w HMm.o.cells H.o.tbl Hs.o).mono ?_;rintro e w2 ⟨rfl,hB2,hC2⟩;have hmu:=H.o.um _ (Zy Hk.o);have D2:=Y4 (show Wt w2 U T b B {d with x:=d.x,ms:=d.ms.set k (mb,V0 m.cl x),n:=d.n+1} from
  H.o.step Hk.o (hC2.mono fun _ _ e=>.inl e) ⟨hB2,Rd.nil _ _ _,Rd.nil _ _ _⟩
   (Tk (H.o.mach _ (Zy Hk.o)).2 x)
   (H.o.shr.chg hC2 (H.o.ne.2.2.2.2.2.2 _ (Zy Hk.o)).2.1.symm (fun _ hj e=>hj (e▸hmu))) H.o.xok.up)
 have C2:=Y4 (show Chg U w w2 from hC2.mono fun _ _ e=>by rw[e];exact hmu);clear hB2 hC2 c1 cmk z13 c2 ck c3 cx;go_upto_region 6 with fail;have m2:=lat (show w2.cell? ⟨b,2,none⟩=some (.slice (some ⟨d.gb,0,none⟩) nn d.cb) from by rw[← Hbx.o];exact D2.o.c 2 rfl);have mk:=lat (show w2.cell? ⟨d.gb,k,none⟩=some (.slice (some ⟨ga,oa,none⟩) sn sc) from Own.at_ (E:=ssE) D2.o.box (Ir Hsx.o));have q1:(1:Int)≤(sn:Int):=by omega
 have q0:sn≤sc:=by have:=Hsn.o;omega
 have q2:(1:Int)≤(sc:Int):=by omega
 have q3:1≤sn:=by omega
 have q4:1≤sc:=by omega
 refine Wy 13 15 (by kernel_rfl) (by omega) (by kernel_rfl) (by kernel_rfl) (by kernel_rfl) ?_;simp only[Z6,Z7,Z8,Z9];repeat((with_reducible refine Yu ?_);intro K hK;go_simp;(with_reducible refine hK _ ?_);clear hK K)
 (with_reducible refine Yt ?_)
 intro w3 hy3;obtain⟨A2,hA2⟩:=gnX ((if sc=1 then some (⟨ga,oa,none⟩:Addr)else some ⟨ga,oa+1,none⟩));rw[hA2];have D3:=Y4 (D2.o.ext hy3);have r3:RdE Jr w3 (fun j=>¬ U j) (.slice (some ⟨ga,oa,none⟩) sn sc) l:=(D3.o.boxes k _ l Hsx.o Hlx.o).1;have r4:RdE Jr w3 (fun j=>¬ U j) (.slice A2 (sn-1) (sc-1)) (l.drop 1):=RdE.drop r3 rfl (by have:=Hsn.o;omega) (by have:=Hsn.o;omega) (fun hp=>by rw[← hA2,Zk9 (by omega)]) (by omega) (by unfold maxLen at hscm⊢;omega);have hk':k<(d.ms.set k (mb,V0 m.cl x)).length:=by rw[Zf,Hnn.o];exact hkl
 have D4:=Y4 (D3.o.setBox hk' ⟨A2,sn-1,sc-1⟩ (l.drop 1) r4 (by rw[Yz];have:=Hb8.o;omega));have C4:=Y4 ((C2.o.trans (hy3.chg _)).setCell (p:=⟨d.gb,k,none⟩) (.inl H.o.ugb) (Sl.v ⟨A2,sn-1,sc-1⟩));have ck:w3.cell? ⟨d.gb,k,none⟩=some (.slice (some ⟨ga,oa,none⟩) sn sc):=Own.at_ (E:=ssE) D3.o.box (Ir Hsx.o);have fz:w3.frozen? ⟨d.gb,k,none⟩=false:=Own.thaw (E:=ssE) D3.o.box k;clear r3 r4 hy3 m2 mk D2 C2 hA2 hscm hsc;go_upto_region 7 with fail;obtain⟨W4,hW4⟩:=gnX (w3.setCell ⟨d.gb,k,none⟩ (.slice A2 (sn-1) (sc-1)));rw[show w3.setCell ⟨d.gb,k,none⟩ (Sl.v ⟨A2,sn-1,sc-1⟩)=W4 from hW4]at D4 C4;rw[hW4];clear hW4 ck fz D3;obtain⟨z0,hz0⟩:∃ z,d.last[k]?=some z:=⟨d.last[k]'(by rw[H.o.ll,Hnn.o];exact hkl),Zz _⟩;have hll:d.last.length=nn:=by rw[H.o.ll];exact Hnn.o
 have m4:=lat (show W4.cell? ⟨b,4,none⟩=some (.slice (some ⟨d.gl,0,none⟩) nn d.cl) from by rw[← hll];exact D4.o.c 4 rfl);have m3:=lat (show W4.cell? ⟨b,3,none⟩=some (.slice Ao no Co) from by rw[← Hov.o];exact D4.o.c 3 rfl);refine Wy 10 12 (by kernel_rfl) (by omega) (by kernel_rfl) (by kernel_rfl) (by kernel_rfl) ?_;simp only[Z6,Z7,Z8,Z9];repeat((with_reducible refine Yu ?_);intro K hK;go_simp;(with_reducible refine hK _ ?_);clear hK K)
 (with_reducible refine Yt ?_)
 intro w5 hy5;have D5a:=Y4 (D4.o.ext hy5);have cl:w5.cell? ⟨d.gl,k,none⟩=some (.int .i64 z0):=Own.at_ (E:=Wb) D5a.o.lown (ints_at hz0);have fz:w5.frozen? ⟨d.gl,k,none⟩=false:=Own.thaw (E:=Wb) D5a.o.lown k;have D5:=Y4 (D5a.o.setLast hk' (no:Int));have C5:=Y4 ((C4.o.trans (hy5.chg _)).setCell (p:=⟨d.gl,k,none⟩) (.inl H.o.ugl) (.int .i64 (no:Int)));clear hy5 m4 m3 D4 C4 D5a hz0;go_upto_region 8 with fail;obtain⟨W5,hW5⟩:=gnX (w5.setCell ⟨d.gl,k,none⟩ (.int .i64 (no:Int)));rw[hW5]at D5 C5;rw[hW5];clear hW5 cl fz;have c3:W5.cell? ⟨b,3,none⟩=some (.slice Ao no Co):=by rw[← Hov.o];exact D5.o.c 3 rfl
 have c5:W5.cell? ⟨b,5,none⟩=some (.int .i64 (d.t:Int)):=D5.o.c 5 rfl;refine Qm (S:=fun w'=>w'.cell? ⟨b,3,none⟩=some (.slice Ao no Co)∧w'.cell? ⟨b,5,none⟩=some (.int .i64 (d.t:Int))∧True) 13 16 (by kernel_rfl) (by omega) (by kernel_rfl) (by kernel_rfl) ?_;refine Uz 11 2 (by rfl) (by decide) (by kernel_rfl) (by kernel_rfl) (fun _ _ d _ _ h=>by cases d<;>exact h) ⟨c3,c5,trivial⟩ ?_;simp only[Z8,Z9];repeat(refine Xu (v:=?_) (by kernel_rfl) ?_ ?_;rotate_left;(focus((intro wT hST;obtain⟨hS0,hS1,hS2⟩:=hST;go_simp);(first|done|(with_reducible rfl))));(try simp only[Act.put,Zv,Zu,Zt]))
 refine Xs ?_;have x6:Ext W5 (W5.alloc (.cells #[.int .i64 (k:Int),.int .i64 0,.int .i64 0,.slice none 0 0,.int .i64 0,.int .i64 0,.string ⟨#[]⟩,.int .i64 0,.int .i64 0,.string ⟨#[]⟩,.int .i64 0,.int .i64 0,.int .i64 (d.t:Int),.int .i64 (-1),.int .i64 (-1),.int .i64 0,.int .i64 0,.string ⟨#[]⟩,.int .i64 0,.int .i64 0,.string ⟨#[]⟩,.int .i64 0,.int .i64 0] 55)).drew:=((Yl W5).alloc _).drew;have D6:=Y4 (D5.o.ext x6);have H6:=Y4 (RdE.ext (Zme W5 (k:Int) (d.t:Int) 55 _ rfl) (Yl _).drew);have C6:=Y4 (C5.o.trans (x6.chg _));refine Zjv (rs:=[11]) (by kernel_rfl) (by simp) ?_;refine Yr (o:=_) rfl (fun K hK=>?_) Yq;go_simp;obtain⟨W6,hW6⟩:=gnX ((W5.alloc (.cells #[.int .i64 (k:Int),.int .i64 0,.int .i64 0,.slice none 0 0,.int .i64 0,.int .i64 0,.string ⟨#[]⟩,.int .i64 0,.int .i64 0,.string ⟨#[]⟩,.int .i64 0,.int .i64 0,.int .i64 (d.t:Int),.int .i64 (-1),.int .i64 (-1),.int .i64 0,.int .i64 0,.string ⟨#[]⟩,.int .i64 0,.int .i64 0,.string ⟨#[]⟩,.int .i64 0,.int .i64 0] 55)).drew);replace H6:Y0 (RdE opE W6 (fun _=>True) (.slice (some ⟨W5.heap.size,0,none⟩) 1 1) [Zzq (k:Int) (d.t:Int)]):=hW6▸H6;rw[hW6]at D6 C6;rw[hW6];clear hW6 x6;have c3':W6.cell? ⟨b,3,none⟩=some (.slice Ao no Co):=by rw[← Hov.o];exact D6.o.c 3 rfl
 have c5':W6.cell? ⟨b,5,none⟩=some (.int .i64 (d.t:Int)):=D6.o.c 5 rfl;refine hK.out _ _ ⟨c3',c5',trivial⟩ (fun hHeld=>?_);clear hHeld hK K;try simp only[Act.put,Zv,Zu,Zt]
 have O6:Own opE W6 B (.slice Ao no Co) d.ops:=by rw[← Hov.o];exact D6.o.own
 refine Zjv (rs:=[12]) (by kernel_rfl) (by simp) ?_;refine Yr (o:=_) rfl (fun K hK=>?_) Yq;refine Vj opE (.tmp 78) (.tmp 85) 23 (by rfl) (by rfl) (by rfl) (by rfl) O6 (by rfl) H6.o (by rw[Hno.o];show no+1≤_;omega) (by show 232≤1000;omega) D6.o.big ?_;intro A7 n7 c7 w7 hg7;have G7:=Y4 (show Grew opE W6 B d.ov (d.ops++[Zzq (k:Int) (d.t:Int)]) A7 n7 c7 w7 by rw[Hov.o];exact hg7);have nb:¬ d.ov.ownBlock=some b:=fun e=>(H.o.nov e).1 rfl
 have hlb:=D6.o.cells.lt;have c3:w7.cell? ⟨b,3,none⟩=some (.slice Ao no Co):=(G7.o.chg.cell (p:=⟨b,3,none⟩) hlb nb).trans c3';have c5:w7.cell? ⟨b,5,none⟩=some (.int .i64 (d.t:Int)):=(G7.o.chg.cell (p:=⟨b,5,none⟩) hlb nb).trans c5';have fz:w7.frozen? ⟨b,3,none⟩=false:=(G7.o.chg.frozen (p:=⟨b,3,none⟩) hlb nb).trans (D6.o.cells.fz 3);have D8:=Y4 (D6.o.addOp G7.o (by show d.ops.length<4096;rw[Hno.o];omega) rfl rfl ⟨by show(0:Int)≤(k:Int);omega,by show(k:Int)<64;omega,by show(-1:Int)≤-1;omega,by show(-1:Int)≤2000000;omega,KS.nil,Zip _⟩);have C8:=Y4 ((C6.o.trans (G7.o.chg.mono fun _ _ e=>H.o.uo _ e)).setCell (p:=⟨b,3,none⟩) (.inl H.o.ub) (.slice A7 n7 c7));refine hK.out _ _ ⟨c3,c5,trivial⟩ (fun hHeld=>?_);clear hHeld hK K hg7 c3' c5' O6;refine Zjf (by kernel_rfl) ?_ _;simp only[Jg,Z6,Z7];try simp only[Act.put,Zv,Zu,Zt]
 go_wp2_with fail;go_ret;refine⟨true,_,_,rfl,D8.o,?_,C8.o,?_,rfl,Yn _,?_⟩
 ·exact Zsj Hl.o Hk.o Hs.o (H.o.mach _ (Zy Hk.o)).2 x Hlx.o Hx0.o rfl rfl rfl (by show _=d.last.set k (d.ops.length:Int);rw[Hno.o]) rfl
 ·show(d.ms.set k _).length=_;rw[Zf]
 intro q hq;rcases hq with hq|hq
 ·exact .inl hq
 rcases G7.o.at_ with e|e
 ·exact .inl (H.o.uo _ (e▸hq))
 rw[hq]at e;exact .inr (by rw[Zjy e];exact C6.o.size)
end
section
def cost:Nat→Nat
 | 0=>0
 | d+1=>(d+1)*(1+cost d)
def Zol(os:List Opn)(ord:List Nat):Prop:=∀ (k i:Nat),ord[k]?=some i→Ja os (ord.take k) i=false
structure Part(cl cp:Int)(os:List Opn)(ord:List Nat):Prop where
 nd:ord.Nodup
 lt:∀ i∈ord,i<os.length
 ex:Bu cl cp os ord=true
 ti:Zol os ord
theorem Part.nil(cl cp:Int)(os:List Opn):Part cl cp os []:=⟨List.nodup_nil,by simp,rfl,fun k i h=>by simp at h⟩
theorem Part.more{cl cp:Int}{os:List Opn}{ord:List Nat}{i:Nat}(h:Part cl cp os ord)(hi:i<os.length)(hc:ord.contains i=false)(he:Ja os ord i=false)(hx:Bu cl cp os (ord++[i])=true):Part cl cp os (ord++[i]):=by
 have hni:i ∉ ord:=by simpa using hc
 refine⟨Zg2.2 ⟨h.nd,by simp,fun a ha b hb=>by rw[Zi.1 hb];rintro rfl;exact hni ha⟩,fun j hj=>?_,hx,fun k j hj=>?_⟩
 ·rcases Zj.1 hj with q|q
  ·exact h.lt j q
  rw[Zi.1 q];exact hi
 rcases Zis k ord.length with g|g
 ·rw[Ze g]at hj;rw[Zgo (by omega)];exact h.ti k j hj
 rw[Zd g]at hj;have:=(Zr.1 hj).1;simp only[Zj3]at this;have hk:k=ord.length:=by omega
 subst hk;rw[Zgb]at hj;obtain rfl:=Zjy hj;rw[List.take_left' rfl];exact he
structure Fnd(cl cp:Int)(os:List Opn)(L:List Nat)(d left:Nat)(ord:List Nat)(r:Sx)(C:Nat)(G:Prop):Prop where
 nb:r.broken=false
 use:left≤r.left+C
 ok:r.found=true→Part cl cp os r.ord∧r.ord.length=ord.length+d
 all:G→r.found=true
def Zsr(ord c:List Nat):Nat:=c.countP fun i=>!ord.contains i
theorem Nq{cl cp:Int}{os:List Opn}{L:List Nat}{d:Nat}{rec:Nat→List Nat→Sx}
 (hrec:∀ left ord,Part cl cp os ord→ord.length+d=os.length→cost d≤left→Fnd cl cp os L d left ord (rec left ord) (cost d) (ord=L.take ord.length))
 (hL:Part cl cp os L) (hLx:∀ k,Bu cl cp os (L.take k)=true) {ord:List Nat} (hp:Part cl cp os ord) (hl:ord.length+(d+1)=os.length) :
 ∀ (c:List Nat) (left:Nat),(∀ i∈c,i<os.length)→Zsr ord c*(1+cost d)≤left →
  Fnd cl cp os L (d+1) left ord (Gw cl cp os rec c left ord) (Zsr ord c*(1+cost d)) (ord=L.take ord.length∧∃ i∈c,L[ord.length]?=some i)
 | [],left,_,_=>⟨rfl,by simp[Gw],fun e=>by simp[Gw]at e,fun⟨_,i,hi,_⟩=>by simp at hi⟩
 | i::c,left,hc,hleft=>by
  have hi:=hc i (by simp);have hc':∀ j∈c,j<os.length:=fun j hj=>hc j (by simp[hj])
  cases hin:ord.contains i
  ·have ho:Zsr ord (i::c)=Zsr ord c+1:=by
    unfold Zsr;rw[Zi7,hin];rfl
   rw[ho,Zi8,Zhu]at hleft⊢;obtain⟨l,rfl⟩:∃ l,left=l+1:=⟨left-1,by omega⟩;cases he:Ja os ord i
   ·cases hx:Bu cl cp os (ord++[i])
    ·rw[Zxl hin he hx];have ih:=Nq hrec hL hLx hp hl c l hc' (by omega);refine⟨ih.nb,by have:=ih.use;omega,ih.ok,?_⟩;rintro⟨g1,j,hj,g2⟩;refine ih.all ⟨g1,j,?_,g2⟩;rcases Zg.1 hj with rfl|hj
     ·have h2:=hLx (ord.length+1);rw[Za,g2,← g1]at h2;have h3:Bu cl cp os (ord++[j])=true:=h2;rw[hx]at h3;cases h3
     exact hj
    have hr:=hrec l (ord++[i]) (hp.more hi hin he hx) (by simp;omega) (by omega);cases hf:(rec l (ord++[i])).found
    ·rw[Il hin he hx hf hr.nb];have hu:=hr.use;have ih:=Nq hrec hL hLx hp hl c (rec l (ord++[i])).left hc' (by omega);refine⟨ih.nb,by have:=ih.use;omega,ih.ok,?_⟩;rintro⟨g1,j,hj,g2⟩;refine ih.all ⟨g1,j,?_,g2⟩;rcases Zg.1 hj with rfl|hj
     ·have:=hr.all (by rw[Zs,Zj3,Za,g2,← g1];rfl);rw[hf]at this;cases this
     exact hj
    rw[Zxm hin he hx (.inl hf)];have hu:=hr.use;refine⟨hr.nb,by omega,fun e=>?_,fun _=>hf⟩;obtain⟨a,b⟩:=hr.ok e;exact⟨a,by rw[b];simp;omega⟩
   rw[Pk hin he];have ih:=Nq hrec hL hLx hp hl c l hc' (by omega);refine⟨ih.nb,by have:=ih.use;omega,ih.ok,?_⟩;rintro⟨g1,j,hj,g2⟩;refine ih.all ⟨g1,j,?_,g2⟩;rcases Zg.1 hj with rfl|hj
   ·have:=hL.ti ord.length j g2;rw[← g1,he]at this;cases this
   exact hj
  have ho:Zsr ord (i::c)=Zsr ord c:=by
   unfold Zsr;rw[Zi7,hin];rfl
  rw[ho]at hleft⊢;rw[Zrk hin];have ih:=Nq hrec hL hLx hp hl c left hc' hleft;refine⟨ih.nb,ih.use,ih.ok,?_⟩;rintro⟨g1,j,hj,g2⟩;refine ih.all ⟨g1,j,?_,g2⟩;rcases Zg.1 hj with rfl|hj
  ·-- it is in the order already: L has it once
   exfalso;have hm:j∈L.take ord.length:=by rw[← g1];simpa using hin
   obtain⟨k,hk⟩:=Zjr hm;have hkl:=(Zr.1 hk).1;rw[Zp]at hkl;rw[Ziu (by omega)]at hk;obtain⟨a1,a2⟩:=Zr.1 hk;obtain⟨b1,b2⟩:=Zr.1 g2;have:=Zjh.1 hL.nd k ord.length a1 b1 (by omega);exact this (a2.trans b2.symm)
  exact hj
theorem Zwa{n:Nat}{ord:List Nat}(hn:ord.Nodup)(hl:∀ i∈ord,i<n):Zsr ord (List.range n)=n-ord.length:=by
 unfold Zsr;have h1:(List.range n).countP (fun i=>ord.contains i)=ord.length:=by
  rw[List.countP_eq_length_filter];have hp:((List.range n).filter fun i=>ord.contains i).Perm ord:=by
   rw[Zgh (List.Pairwise.filter _ List.nodup_range) hn];intro a;simp only[Zhh,Zj9,List.contains_iff_mem];exact⟨fun h=>h.2,fun h=>⟨hl a h,h⟩⟩
  exact hp.length_eq
 have h2:=List.length_eq_countP_add_countP (fun i=>ord.contains i) (l:=List.range n);rw[Zi3,h1]at h2;have h3:(List.range n).countP (fun a=>decide ¬ord.contains a=true)=(List.range n).countP (fun i=>!ord.contains i):=by
  congr 1;funext a;cases ord.contains a<;>rfl
 rw[h3]at h2;omega
theorem Zu8{cl cp:Int}{os:List Opn}{L:List Nat}(hL:Part cl cp os L)(hlen:L.length=os.length)(hLx:∀ k,Bu cl cp os (L.take k)=true) :
 ∀ (d left:Nat) (ord:List Nat),Part cl cp os ord→ord.length+d=os.length→cost d≤left→Fnd cl cp os L d left ord (Kg cl cp os d left ord) (cost d) (ord=L.take ord.length)
 | 0,left,ord,hp,hl,_=>⟨rfl,Yn _,fun _=>⟨hp,rfl⟩,fun _=>rfl⟩
 | d+1,left,ord,hp,hl,hc=>by
  have ho:=Zwa hp.nd hp.lt;have e:Zsr ord (List.range os.length)*(1+cost d)=cost (d+1):=by rw[ho,cost];congr 1;omega
  have h:=Nq (Zu8 hL hlen hLx d) hL hLx hp hl (List.range os.length) left (fun i hi=>Zj9.1 hi) (by rw[e];exact hc);rw[e]at h;refine⟨h.nb,h.use,h.ok,fun g=>h.all ⟨g,?_⟩⟩;obtain⟨i,hi⟩:∃ i,L[ord.length]?=some i:=⟨_,Zz (by omega)⟩;exact⟨i,Zj9.2 (hL.lt i (Zy hi)),hi⟩
theorem Zn8{n:Nat}(h:n≤6):cost n≤5000:=by
 rcases(show n=0∨n=1∨n=2∨n=3∨n=4∨n=5∨n=6 by omega)with rfl|rfl|rfl|rfl|rfl|rfl|rfl<;>decide
theorem Iw{cl cp:Int}{os:List Opn}{L:List Nat}(hc:Qq cl cp os=(0,0))(ha:∀ o∈os,o.ans≠-1)(hn:os.length≤6)(hL:Part cl cp os L)(hlen:L.length=os.length)(hLx:∀ k,Bu cl cp os (L.take k)=true) :
 ∃ (ord:List Nat) (z:Int),Vd cl cp os 5000=(ord,z,0)∧Part cl cp os ord∧ord.length=os.length:=by
 have h:=Zu8 hL hlen hLx os.length 5000 [] (Part.nil _ _ _) (by simp) (Zn8 hn);have hf:=h.all (by simp);obtain⟨h1,h2⟩:=h.ok hf;refine⟨_,5000-((Kg cl cp os os.length 5000 []).left:Int),?_,h1,by rw[h2];simp⟩;unfold Vd;have e:(5000:Int).toNat=5000:=rfl;rw[hc,Zk9 (by simp),Zk9,Zk9 (by omega),e,Zk9 (by rw[h.nb];simp),Zjx hf];rw[Zii];rintro⟨o,ho,q⟩;exact ha o ho (by simpa using q)
theorem R9.pre{cl cp:Int}{os:List Opn}{l:List Nat}{st:RSt}(h:R9 cl cp os l st):∀ k,∃ st',R9 cl cp os (l.take k) st':=by
 induction h with
 | nil=>exact fun k=>⟨_,by rw[List.take_nil];exact .nil⟩
 | @snoc l st i o h1 h2 h3 ih =>
  intro k;rcases Zis l.length k with g|g
  ·exact⟨_,by rw[Zm (by simp;omega)];exact h1.snoc i o h2 h3⟩
  obtain⟨st',h'⟩:=ih k;exact⟨st',by rw[Zgo g];exact h'⟩
theorem Pr{cl cp:Int}{os:List Opn}:∀ {l:List Nat} {s:RSt},Aa cl cp os l s=none→(∀ i∈l,∃ o,os[i]?=some o)→∀ (k i:Nat) (o:Opn),l[k]?=some i→os[i]?=some o→(Vm cl cp (stO cl cp os (l.take k) s) o).1=0
 | [],s,_,_,k,i,o,hk,_=>by simp at hk
 | j::l,s,h,hm,k,i,o,hk,ho=>by
  obtain⟨q,hq⟩:=hm j (by simp);rw[Aa,hq]at h;simp only at h;split at h
  ·cases h
  rename_i h2;cases k with
  | zero =>
   have e:j=i:=by simpa using hk
   subst e;rw[hq]at ho;obtain rfl:=Zjy ho;simpa[stO]using h2
  | succ k =>
   have:=Pr h (fun x hx=>hm x (by simp[hx])) k i o (by simpa using hk) ho;rw[Z8];simpa[stO,hq]using this
def Wh(o:Opn):Opn:={o with dec:=o.ans-1}
theorem Zx5(o:Opn):I7 o (Wh o):=⟨rfl,rfl,rfl,rfl,rfl,rfl⟩
theorem Bb{os:List Opn}{i:Nat}{o:Opn}(h:(os.map Wh)[i]?=some o):∃ p,os[i]?=some p∧o=Wh p:=by
 rw[Zn,Zjl]at h;obtain⟨p,h1,h2⟩:=h;exact⟨p,h1,h2.symm⟩
theorem Da{cl cp:Int}{os:List Opn}:∀ (l:List Nat) (s:RSt),Aa cl cp (os.map Wh) l s=Aa cl cp os l s
 | [],_=>rfl
 | i::l,s=>by
  rw[Aa,Aa,Zn];cases os[i]? with
  | none=>rfl
  | some o =>
   simp only[Zil];rw[(Zx5 o).step,Da l]
section
variable {cl cp t:Int} {x:Shr} {ms:List Wc} {os:List Opn} {last:List Int}
theorem I2.blind(hO:I2 cl ms os last t)(hA:∀ o∈os,o.dec≠-1∧o.ans≠-1){i:Nat}(hi:i<os.length):Go.Proofs.YtnbclgbicnpmnaaGreat.okAt cl (os.map Wh) i=true:=by
 obtain⟨o,ho⟩:∃ o,os[i]?=some o:=⟨_,Zz hi⟩;have hm:=Zy ho;have hE:=hO.each o hm;have hd:=hE.d1 (hA o hm).1;have ha:o.dec<o.ans:=by
  rcases hd.2.2 with q|q
  ·exact absurd q (hA o hm).2
  exact q.1
 have hb:=hd.1;have b0:=hE.b0;have ho':(os.map Wh)[i]?=some (Wh o):=by rw[Zn,ho];rfl
 have h1:Kw cl (Wh o)=true:=by
  have c0:=hE.c0;have c1:=hE.c1;unfold Kw;rw[Zk9 (by show ¬ (o.cl<0∨cl≤o.cl∨o.begun<0);omega),Zk9 (by show ¬ o.ans-1 = -1;omega)];have e1:decide ((Wh o).begun<(Wh o).dec)=true:=Yf (by show o.begun<o.ans-1;omega);have e2:decide ((Wh o).dec<(Wh o).ans)=true:=Yf (by show o.ans-1<o.ans;omega);rw[e1,e2];simp
 have h2:Zui (os.map Wh) i (Wh o)=false:=by
  unfold Zui;split
  ·rename_i p hp;obtain⟨p',hp',rfl⟩:=Bb hp;rcases Zj4 i with q|q
   ·simp[q]
   have:=hO.inc (i-1) i p' o (by omega) hp' ho;have e:decide ((Wh o).begun≤(Wh p').begun)=false:=Yg (by show ¬ o.begun≤p'.begun;omega);rw[e,Bool.and_false]
  rfl
 have h3:seenD (os.map Wh) i (Wh o).dec=false:=by
  unfold seenD;rw[Zg1];intro p hp;obtain⟨j,hj⟩:=Zjr hp;have hjl:=(Zr.1 hj).1;rw[Zp]at hjl;rw[Ziu (by omega)]at hj;obtain⟨p',hp',rfl⟩:=Bb hj;intro e;have e':p'.ans-1=o.ans-1:=by simpa[Wh]using e
  have:=hO.dsa i j o p' ho hp' (hA o hm).2 (by omega);omega
 have h4:Di (os.map Wh) i (Wh o)=false:=by
  unfold Di K4;cases hl:lastOf (os.map Wh) i (Wh o).cl with
  | none=>rfl
  | some p =>
   obtain⟨j,a,b,d⟩:=Gm hl;obtain⟨p',hp',rfl⟩:=Bb b;obtain⟨q1,q2⟩:=hO.late j i p' o a hp' ho d;have e1:((Wh p').ans == -1)=false:=by show(p'.ans == -1)=false;simpa using q1
   have e2:decide ((Wh o).begun≤(Wh p').ans)=false:=Yg (by show ¬ o.begun≤p'.ans;omega);simp only[Zil];rw[e1,e2];rfl
 unfold Go.Proofs.YtnbclgbicnpmnaaGreat.okAt;rw[ho'];simp only;rw[h1,h2,h3,h4,Bool.and_false];rfl
structure Zkd(cl cp:Int)(os:List Opn)(ord:List Nat):Prop where
 nd:ord.Nodup
 lt:∀ i∈ord,i<os.length
 len:ord.length=os.length
 real:∀ (a b i j:Nat) (o p:Opn),b<a→ord[a]?=some i→ord[b]?=some j→os[i]?=some o→os[j]?=some p→Oz o p=false
 step:∀ (k i:Nat) (o:Opn),ord[k]?=some i→os[i]?=some o→(Vm cl cp (stO cl cp os (ord.take k) ([],0,true)) o).1=0
theorem Lin.finds(h:Lin cl cp x ms os last t)(hA:∀ o∈os,o.dec≠-1∧o.ans≠-1)(hc:V7 cl cp=0)(hn:os.length≤6):∃ (ord:List Nat) (z:Int),Vd cl cp (os.map Wh) 5000=(ord,z,0)∧Zkd cl cp os ord:=by
 have hlin:=h;obtain⟨_,M,_,hO,st,hr,_⟩:=h;have is:=Jn os;have hdec:∀ i,Fs os i=true↔i<os.length:=fun i=>⟨Du,fun hi=>by
  have e:os[i]?=some os[i]:=Zz hi;unfold Fs;rw[Vb e];simpa using(hA _ (Zy e)).1⟩
 have hnd:(Kf os).Nodup:=is.asc.imp fun {a b} q=>by
  rintro rfl;unfold lxO at q;simp at q
 have hperm:(Kf os).Perm (List.range os.length):=by
  rw[Zgh hnd List.nodup_range];intro a;rw[is.mem,hdec,Zj9]
 have hlen:(Kf os).length=os.length:=by rw[hperm.length_eq,Zi3]
 have hex:∀ k,Bu cl cp (os.map Wh) ((Kf os).take k)=true:=fun k=>by
  obtain⟨st',h'⟩:=hr.pre k;unfold Bu;rw[Da,h'.run.1];rfl
 have hT:Zol (os.map Wh) (Kf os):=fun k i hk=>Lr fun j hj=>by
  rintro⟨h1,h2,a,b,ha,hb,hp⟩;obtain⟨a',ha',rfl⟩:=Bb ha;obtain⟨b',hb',rfl⟩:=Bb hb;have hjm:j∈Kf os:=(is.mem j).2 ((hdec j).2 (by simpa using hj));obtain⟨p,hp'⟩:=Zjr hjm;have hpk:k<p:=by
   rcases Zi2 p k with g|g|g
   ·exfalso;have:j∈(Kf os).take k:=Zy (i:=p) (by rw[Ziu g];exact hp');have h3:((Kf os).take k).contains j=true:=by simpa using this
    rw[h1]at h3;cases h3
   ·subst g;rw[hk]at hp';exact absurd (Zjy hp').symm h2
   exact g
  have:=hlin.real hpk hp' hk ha' hb';unfold Oz at hp;rw[Zjg,Zjm,Zjm]at hp;exact this hp
 have hP:Part cl cp (os.map Wh) (Kf os):=⟨hnd,fun i hi=>by rw[Zq];exact(hdec i).1 ((is.mem i).1 hi),by have:=hex (Kf os).length;rwa [List.take_length]at this,hT⟩;have hck:Qq cl cp (os.map Wh)=(0,0):=Bw hc (by rw[Zq];omega) fun j hj=>hO.blind hA (by simpa using hj)
 obtain⟨ord,z,e1,e2,e3⟩:=Iw hck (fun o ho=>by
  obtain⟨p,hp,rfl⟩:=Zjs.1 ho;exact(hA p hp).2) (by rw[Zq];exact hn) hP (by rw[Zq];exact hlen) hex
 rw[Zq]at e3;have hlt:∀ i∈ord,i<os.length:=fun i hi=>by have:=e2.lt i hi;rwa [Zq]at this
 refine⟨ord,z,e1,e2.nd,hlt,e3,fun a b i j o p hab ha hb ho hp=>?_,fun k i o hk ho=>?_⟩
 ·have hti:=e2.ti b j hb;cases hpr:Oz o p
  ·rfl
  exfalso;have hni:(ord.take b).contains i=false:=by
   cases hc':(ord.take b).contains i
   ·rfl
   exfalso;have hm:i∈ord.take b:=by simpa using hc'
   obtain⟨q,hq⟩:=Zjr hm;have hql:=(Zr.1 hq).1;rw[Zp]at hql;rw[Ziu (by omega)]at hq;obtain⟨a1,a2⟩:=Zr.1 ha;obtain⟨q1,q2⟩:=Zr.1 hq;exact Zjh.1 e2.nd q a q1 a1 (by omega) (q2.trans a2.symm)
  have hne:i≠j:=by
   rintro rfl;obtain⟨a1,a2⟩:=Zr.1 ha;obtain⟨b1,b2⟩:=Zr.1 hb;exact Zjh.1 e2.nd b a b1 a1 hab (b2.trans a2.symm)
  have:=Oh (os:=os.map Wh) (ord:=ord.take b) (i:=j) (j:=i) (a:=Wh o) (b:=Wh p) (by rw[Zn,ho];rfl) (by rw[Zn,hp];rfl) hni hne hpr;rw[hti]at this;cases this
 have hx:=e2.ex;unfold Bu at hx;rw[Da]at hx;exact Pr (Option.isNone_iff_eq_none.1 hx) (fun i hi=>⟨_,Zz (hlt i hi)⟩) k i o hk ho
end
end
