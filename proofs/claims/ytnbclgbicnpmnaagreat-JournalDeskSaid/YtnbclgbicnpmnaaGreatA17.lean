/- Lemmas of this claim: DoLaw, App, Enc2, EnP, Perf, Start, Law28a, RPf, Sr, Dc, EnB. Conditions: as named. -/
import Derived.Test.YtnbclgbicnpmnaaGreatA04
import Derived.Test.YtnbclgbicnpmnaaGreatA16
namespace Go.Proofs.YtnbclgbicnpmnaaGreat
open Go.RowKit Go.Sort Tryz
set_option maxHeartbeats 0
set_option maxRecDepth 100000
set_option linter.all false
def NZ(l:List Kp):Prop:=∀ p∈l,p.2.st≠0
theorem Zwg{l:List Kp}(h:NZ l)(k:ByteArray)(r:Rc):NZ (Jb l k r):=by
 intro p hp;rcases Vk.1 hp with⟨hp,_⟩ | ⟨hd,hp⟩
 ·exact h p hp
 subst hp;simpa using hd
theorem Jr(k:ByteArray):∀ l:List Kp,(Xd l k=default∧¬ ∃ p∈l,p.1=k)∨∃ p∈l,p.1=k∧Xd l k=p.2
 | []=>.inl ⟨rfl,by simp⟩
 | p::l=>by
  rw[Xd];by_cases h:p.1=k
  ·exact .inr ⟨p,by simp,h,Zgn h⟩
  rw[Zgq h];rcases Jr k l with⟨h1,h2⟩ | ⟨q,h1,h2,h3⟩
  ·exact .inl ⟨h1,by rintro⟨q,hq,e⟩;rcases Zg.1 hq with rfl|hq;exact h e;exact h2 ⟨q,hq,e⟩⟩
  exact .inr ⟨q,by simp[h1],h2,h3⟩
theorem Zwr{l:List Kp}(h:NZ l){k:ByteArray}(hs:(Xd l k).st=0):Xd l k=default:=by
 rcases Jr k l with⟨h1,_⟩ | ⟨p,h1,_,h3⟩
 ·exact h1
 rw[h3]at hs;exact absurd hs (h p h1)
theorem Zrj{l:List Kp}(h:NZ l){k:ByteArray}:(Xd l k).st=0↔¬ ∃ p∈l,p.1=k:=by
 rcases Jr k l with⟨h1,h2⟩ | ⟨p,h1,h2,h3⟩
 ·exact⟨fun _=>h2,fun _=>by rw[h1];rfl⟩
 exact⟨fun hs=>by rw[h3]at hs;exact absurd hs (h p h1),fun hn=>absurd ⟨p,h1,h2⟩ hn⟩
theorem Qq(l:List Kp)(k:ByteArray)(r:Rc):Xd (Jb l k r) k=if r.st=0 then default else r:=by
 unfold Jb;rw[Qp];simp
theorem Wr(l:List Kp){k k':ByteArray}(h:k'≠k)(r:Rc):Xd (Jb l k r) k'=Xd l k':=Vc h
abbrev PW(ps:List (Nm×Rc)):Prop:=ps.Pairwise (fun a b=>a.1.k≠b.1.k)
theorem V3(op client dl:Int)(l:List Kp)(p:Nm×Rc)(ps:List (Nm×Rc)):Ji op client dl l (p::ps)=Ji op client dl (Jb l p.1.k (Wn op client dl p.1 p.2)) ps:=rfl
theorem Jq{op client dl:Int}{k:ByteArray}:∀ {ps:List (Nm×Rc)} {l:List Kp},(∀ p∈ps,p.1.k≠k)→Xd (Ji op client dl l ps) k=Xd l k
 | [],_,_=>rfl
 | p::ps,l,h=>by
  rw[V3,Jq (fun q hq=>h q (by simp[hq])),Wr _ (fun e=>h p (by simp) e.symm)]
theorem Gk{op client dl:Int}:∀ {ps:List (Nm×Rc)} {l:List Kp},PW ps→∀ p∈ps,Xd (Ji op client dl l ps) p.1.k=if(Wn op client dl p.1 p.2).st=0 then default else Wn op client dl p.1 p.2
 | [],_,_,p,hp=>by simp at hp
 | q::ps,l,h,p,hp=>by
  obtain⟨h1,h2⟩:=Zg5.1 h;rw[V3];rcases Zg.1 hp with rfl|hp
  ·rw[Jq (fun x hx=>fun e=>h1 x hx e.symm),Qq]
  exact Gk h2 p hp
theorem Zw5:∀ {l:List Nm},srt l=true→l.Pairwise (fun a b=>J0 a<J0 b)
 | [],_=>List.Pairwise.nil
 | [x],_=>by simp
 | x::y::r,h=>by
  rw[srt,Zgc,Zgh]at h;have ih:=Zw5 h.2;refine Zg5.2 ⟨fun z hz=>?_,ih⟩;rcases Zg.1 hz with rfl|hz
  ·exact h.1
  exact Zet h.1 ((Zg5.1 ih).1 z hz)
theorem Zvx{l:List Kp}{ns:List Nm}(h:srt ns=true):PW (Qy l ns):=by
 unfold Qy PW;rw[Zco];exact(Zw5 h).imp fun hab e=>by unfold J0 at hab;rw[e]at hab;exact Zfq _ hab
theorem Bl{cap op client now:Int}:∀ {ps:List (Nm×Rc)} {i:Nat} {c:Int},Vl cap op client now i c ps=none→∀ p∈ps,Vf p.2.st p.2.ow p.2.dl op client now=0
 | [],_,_,_,p,hp=>by simp at hp
 | q::ps,i,c,h,p,hp=>by
  rw[Vl]at h;split at h
  ·rename_i h0;rcases Zg.1 hp with rfl|hp
   ·unfold Zui at h0;split at h0
    ·simp at h0
    exact h0
   exact Bl h p hp
  simp at h
theorem Se{cap op client ttl now count:Int}{ps:List (Nm×Rc)}(h:(Wm cap op client ttl now count ps).e=0):Vl cap op client now 0 count ps=none:=by
 unfold Wm at h;split at h
 ·simp at h
 cases hj:Vl cap op client now 0 count ps with
 | none=>rfl
 | some x =>
  obtain⟨e,i,n⟩:=x;rw[hj]at h;simp only at h;exfalso;have:∀ {ps:List (Nm×Rc)} {i:Nat} {c:Int} {e j n},Vl cap op client now i c ps=some (e,j,n)→e≠0:=by
   intro ps
   induction ps with
   | nil=>intro i c e j n h;simp[Vl]at h
   | cons p ps ih =>
    intro i c e j n h;rw[Vl]at h;split at h
    ·exact ih h
    rename_i h0;simp only[Yc,Zfk]at h;rw[← h.1];exact h0
  exact this hj h
theorem Zhq{cl cap client op ttl now:Int}{l:List Kp}{ns:List Nm}(h:(doR cl cap l client op ttl now ns).e≠0):doL cl cap l client op ttl now ns=l:=by
 unfold doL;rw[Zgq];rintro⟨hp,h0⟩;unfold doR at h;rw[Zgn hp]at h;exact h h0
theorem Zuj{cl cap client op ttl now:Int}{l:List Kp}{ns:List Nm}(hz:NZ l):NZ (doL cl cap l client op ttl now ns):=by
 unfold doL;split
 ·have:∀ (ps:List (Nm×Rc)) (l:List Kp),NZ l→NZ (Ji op client (now+ttl) l ps):=by
   intro ps
   induction ps with
   | nil=>intro l h;exact h
   | cons p ps ih=>intro l h;rw[V3];exact ih _ (Zwg h _ _)
  exact this _ _ hz
 exact hz
theorem Zlt{l:List Kp}(ha:Aq l)(hz:NZ l){n:Nm}{op client dl now:Int}(ht:Vf (Xd l n.k).st (Xd l n.k).ow (Xd l n.k).dl op client now=0)(h1:1≤op)(h7:op≤7) :
 ((Jb l n.k (Wn op client dl n (Xd l n.k))).length:Int)≤V9 op l.length (Xd l n.k):=by
 obtain⟨r,hr⟩:=gnX (Xd l n.k);have hzero:=Zwr hz (k:=n.k);have hnot:=Zrj hz (k:=n.k);rw[hr]at ht hzero hnot⊢;have hc:(l.length:Int)≤V9 op l.length r:=by unfold V9;split<;>omega
 have hlen:=Ge (k:=n.k) (r:=Wn op client dl n r) (d:=(Wn op client dl n r).st==0) ha;unfold Jb;by_cases hs:(Wn op client dl n r).st=0
 ·have hb:((Wn op client dl n r).st==0)=true:=by simpa using hs
  rw[hb]at hlen⊢;simp only[Zc6]at hlen;split at hlen<;>omega
 have hb:((Wn op client dl n r).st==0)=false:=by simpa using hs
 rw[hb]at hlen⊢;by_cases hp:∃ p∈l,p.1=n.k
 ·rw[Zgn hp]at hlen;simp at hlen;omega
 rw[Zgq hp]at hlen;have hr0:=hnot.2 hp;have hnl:Kd r.st r.dl now=false:=by simp[Kd,hr0]
 have hop:op=1:=by
  rcases(show op=1∨op=2∨op=3∨op=4∨op=5∨op=6∨op=7 by omega)with rfl|rfl|rfl|rfl|rfl|rfl|rfl
  ·rfl
  ·simp[Vf,Qo,hnl]at ht
  ·simp[Vf,Qo,hnl]at ht
  ·simp[Wn,Jh]at hs
  ·simp[Wn,Jh]at hs
  ·simp[Wn,Jh]at hs
  simp[Wn,Jh,hr0]at hs
 subst hop;have:V9 1 l.length r=l.length+1:=by unfold V9 Xk;simp[hr0]
 rw[this];simp at hlen;omega
theorem Zuk{op c c':Int}(r:Rc)(h:c≤c'):V9 op c r≤V9 op c' r:=by unfold V9;split<;>omega
theorem Fb{op:Int}:∀ (ps:List (Nm×Rc)) {c c':Int},c≤c'→Q8 op c ps≤Q8 op c' ps
 | [],_,_,h=>h
 | p::ps,_,_,h=>Fb ps (Zuk p.2 h)
theorem Rm{op client dl now:Int}(h1:1≤op)(h7:op≤7):∀ {ps:List (Nm×Rc)} {l:List Kp},Aq l→NZ l→PW ps→(∀ p∈ps,Xd l p.1.k=p.2)→(∀ p∈ps,Vf p.2.st p.2.ow p.2.dl op client now=0)→((Ji op client dl l ps).length:Int)≤Q8 op l.length ps
 | [],l,_,_,_,_,_=>Zfn _
 | p::ps,l,ha,hz,hp,hg,ht=>by
  obtain⟨h3,h4⟩:=Zg5.1 hp;have hgp:=hg p (by simp);have htp:=ht p (by simp);rw[V3];have hs:=Zlt (n:=p.1) (client:=client) (dl:=dl) (now:=now) ha hz (by rw[hgp];exact htp) h1 h7;rw[hgp]at hs;have ih:=Rm (dl:=dl) h1 h7 (ps:=ps) (l:=Jb l p.1.k (Wn op client dl p.1 p.2)) (Q7 ha) (Zwg hz _ _) h4 (fun q hq=>by rw[Wr _ (fun e=>h3 q hq e.symm)];exact hg q (by simp[hq])) (fun q hq=>ht q (by simp[hq]));exact Int.le_trans ih (Fb ps hs)
theorem Ib{cap op client now:Int}:∀ {ps:List (Nm×Rc)} {i:Nat} {c:Int},Vl cap op client now i c ps=none→c≤cap→Q8 op c ps≤cap
 | [],_,_,_,h=>h
 | p::ps,i,c,h,hc=>by
  rw[Vl]at h;split at h
  ·rename_i h0;have hnx:V9 op c p.2≤cap:=by
    unfold V9;split
    ·rename_i hg;unfold Zui at h0;split at h0
     ·simp at h0
     rename_i hn;rcases Int.lt_or_le c cap with h2|h2
     ·omega
     exact absurd ⟨h0,hg,h2⟩ hn
    exact hc
   show Q8 op (V9 op c p.2) ps≤cap;exact Ib h hnx
  simp at h
theorem Zhp{cl cap client op ttl now:Int}{l:List Kp}{ns:List Nm}(ha:Aq l)(hz:NZ l)(hc:(l.length:Int)≤cap):((doL cl cap l client op ttl now ns).length:Int)≤cap:=by
 unfold doL;split
 ·rename_i h;have hP:Fe cl client op ttl now ns:=Zfp h.1;have hg:=Se h.2;refine Int.le_trans (Rm hP.o0 hP.o1 (now:=now) ha hz (Zvx hP.srt) (fun p hp=>?_) (fun p hp=>Bl hg p hp)) (Ib hg hc);obtain⟨n,_,rfl⟩:=Zgg.1 hp;rfl
 exact hc
def Zzc(cl:Int)(r:Rc):Prop:=Zx9 r.st r.ow r.dl r.nm=true∧r.ow<cl
def R9(cl:Int)(l:List Kp):Prop:=∀ p∈l,Zzc cl p.2
theorem Zrd{st ow dl s client now:Int}(h:Qo st ow dl s client now=0):st=s:=by
 simp only[Qo]at h;cases hl:Kd st dl now<;>simp[hl]at h
 omega
theorem Zv7{cl op client now dl:Int}{n:Nm}{r:Rc}(hr:r.st≠0→Zzc cl r)(ht:Vf r.st r.ow r.dl op client now=0)(h1:1≤op)(h7:op≤7)(c0:0≤client)(c1:client<cl)(hcl:cl≤64)
 (hn:Jz n=true) (hd:Xh op=true→1≤dl∧dl≤1073741824):(Wn op client dl n r).st=0∨Zzc cl (Wn op client dl n r):=by
 have hn':1≤n.a.size∧n.a.size≤63:=by simpa[Jz]using hn
 rcases(show op=1∨op=2∨op=3∨op=4∨op=5∨op=6∨op=7 by omega)with rfl|rfl|rfl|rfl|rfl|rfl|rfl
 ·have hd':=hd rfl;refine .inr ⟨?_,by simpa[Wn,J5]using c1⟩;simp[Zx9,Wn,Jh,J5,Ko,J4,c0,hn',hd'];omega
 ·have hs:r.st=1:=Zrd (s:=1) (by simpa[Vf]using ht);obtain⟨hc,ho⟩:=hr (by omega);refine .inr ⟨?_,by simpa[Wn,J5]using ho⟩;simp[Zx9,Wn,Jh,J5,Ko,J4,hs]at hc⊢;omega
 ·have hs:r.st=1:=Zrd (s:=1) (by simpa[Vf]using ht);have hd':=hd rfl;obtain⟨hc,ho⟩:=hr (by omega);refine .inr ⟨?_,by simpa[Wn,J5]using ho⟩;simp[Zx9,Wn,Jh,J5,Ko,J4,hs]at hc⊢;omega
 ·exact .inl rfl
 ·exact .inl rfl
 ·exact .inl rfl
 by_cases hs:r.st=0
 ·exact .inl hs
 exact .inr (hr hs)
theorem Zrh{cl:Int}{l:List Kp}(h:R9 cl l){k:ByteArray}{r:Rc}(hr:r.st=0∨Zzc cl r):R9 cl (Jb l k r):=by
 intro p hp;rcases Vk.1 hp with⟨hp,_⟩ | ⟨hd,hp⟩
 ·exact h p hp
 subst hp;rcases hr with h0|h1
 ·simp[h0]at hd
 exact h1
theorem Zri{cl:Int}{l:List Kp}(h:R9 cl l){k:ByteArray}(hs:(Xd l k).st≠0):Zzc cl (Xd l k):=by
 rcases Jr k l with⟨h1,_⟩ | ⟨p,hp,_,h3⟩
 ·rw[h1]at hs;exact absurd rfl hs
 rw[h3];exact h p hp
theorem Nx{cl op client now dl:Int}(h1:1≤op)(h7:op≤7)(c0:0≤client)(c1:client<cl)(hcl:cl≤64)(hd:Xh op=true→1≤dl∧dl≤1073741824) :
 ∀ {ps:List (Nm×Rc)} {l:List Kp},R9 cl l→(∀ p∈ps,Vf p.2.st p.2.ow p.2.dl op client now=0∧Jz p.1=true∧(p.2.st≠0→Zzc cl p.2))→R9 cl (Ji op client dl l ps)
 | [],_,h,_=>h
 | p::ps,l,h,hp=>by
  obtain⟨t1,t2,t3⟩:=hp p (by simp);rw[V3];exact Nx h1 h7 c0 c1 hcl hd (Zrh h (Zv7 t3 t1 h1 h7 c0 c1 hcl t2 hd)) fun q hq=>hp q (by simp[hq])
theorem Zje{cl cap client op ttl now:Int}{l:List Kp}{ns:List Nm}(hcl:cl≤64)(h:R9 cl l):R9 cl (doL cl cap l client op ttl now ns):=by
 unfold doL;split
 ·rename_i hp;have hP:Fe cl client op ttl now ns:=Zfp hp.1;have hg:=Se hp.2;have hov:¬ (Xh op=true∧1073741824-now<ttl):=by
   intro ho;have:=hp.2;unfold Wm at this;rw[Zgn ho]at this;simp at this
  refine Nx (now:=now) hP.o0 hP.o1 hP.c0 hP.c1 hcl (fun ht=>?_) h fun p hpm=>?_
  ·have h1:=hP.t1 ht;have h2:=hP.n0;have h3:¬ 1073741824-now<ttl:=fun e=>hov ⟨ht,e⟩
   omega
  have ht:=Bl hg p hpm;obtain⟨n,hn,rfl⟩:=Zgg.1 hpm;exact⟨ht,Zfl.1 hP.good n hn,Zri h⟩
 exact h
theorem Zn9{l:List Kp}(h:Aq l){p:Kp}(hp:p∈l):Xd l p.1=p.2:=by
 rcases Jr p.1 l with⟨_,h2⟩ | ⟨q,hq,e,h3⟩
 ·exact absurd ⟨p,hp,rfl⟩ h2
 rw[h3];by_cases hpq:p=q
 ·rw[hpq]
 exfalso;have h4:kb p.1<kb q.1∨kb q.1<kb p.1:=by
  obtain⟨i,hi,rfl⟩:=Zdz.1 hp;obtain⟨j,hj,rfl⟩:=Zdz.1 hq;rcases Zf1 i j with h5|h5|h5
  ·exact .inl (Zfz.1 h i j hi hj h5)
  ·subst h5;exact absurd rfl hpq
  exact .inr (Zfz.1 h j i hj hi h5)
 rw[e]at h4;rcases h4 with h4|h4<;>exact Zfq _ h4
structure Un(cl cap:Int)(l:List Kp):Prop where
 asc:Aq l
 nz:NZ l
 good:R9 cl l
 cap:(l.length:Int)≤cap
theorem Un.start{cl cap:Int}(h:0≤cap):Un cl cap []:=⟨List.Pairwise.nil,by simp[NZ],by simp[R9],by simpa using h⟩
theorem P1{op client dl:Int}:∀ (ps:List (Nm×Rc)) {l:List Kp},Aq l→Aq (Ji op client dl l ps)
 | [],_,h=>h
 | p::ps,l,h=>by rw[V3];exact P1 ps (Q7 h)
theorem Zsk{cl cap client op ttl now:Int}{l:List Kp}{ns:List Nm}(h:Aq l):Aq (doL cl cap l client op ttl now ns):=by
 unfold doL;split
 ·exact P1 _ h
 exact h
theorem Un.turn{cl cap client op ttl now:Int}{l:List Kp}{ns:List Nm}(h:Un cl cap l)(hcl:cl≤64):Un cl cap (doL cl cap l client op ttl now ns) :=
 ⟨Zsk h.asc,Zuj h.nz,Zje hcl h.good,Zhp h.asc h.nz h.cap⟩
def Zk3(l:List Kp):Prop:=∀ p∈l,p.1.size≤maxLen
theorem Zr8{l:List Kp}{k:ByteArray}{r:Rc}(h:Zk3 l)(hk:k.size≤maxLen):Zk3 (Jb l k r):=by
 intro p hp;rcases Vk.1 hp with⟨hp,_⟩ | ⟨_,hp⟩
 ·exact h p hp
 subst hp;exact hk
theorem Nl{op client dl:Int}:∀ (ps:List (Nm×Rc)) {l:List Kp},Zk3 l→(∀ p∈ps,p.1.k.size≤maxLen)→Zk3 (Ji op client dl l ps)
 | [],_,h,_=>h
 | p::ps,l,h,hp=>by rw[V3];exact Nl ps (Zr8 h (hp p (by simp))) fun q hq=>hp q (by simp[hq])
theorem Zja{cl cap client op ttl now:Int}{l:List Kp}{ns:List Nm}(h:Zk3 l)(hn:∀ n∈ns,n.k.size≤maxLen):Zk3 (doL cl cap l client op ttl now ns):=by
 unfold doL;split
 ·refine Nl _ h fun p hp=>?_
  obtain⟨n,hn',rfl⟩:=Zgg.1 hp;exact hn n hn'
 exact h
theorem Un.at{cl cap:Int}{l:List Kp}(h:Un cl cap l){i:Nat}{p:Kp}(hp:l[i]?=some p):Xd l p.1=p.2∧p.2.st≠0∧Zzc cl p.2 :=
 ⟨Zn9 h.asc (Zy hp),h.nz p (Zy hp),h.good p (Zy hp)⟩
theorem Zyt{e:Ent}{x:List UInt8}(h:Kv e=(0,x)):x.length≤4200:=by
 obtain⟨f,rfl,_⟩:=Dy h;have hb:=f.body;have hs:=Zoy (Vx e);have c1:=Vj (v:=((Vx e).length:Nat)) (by omega) (by omega);have c2:=Vj (v:=(Zoz (Vx e):Nat)) (by omega) (by omega);rw[Bb,Zs,item,Zs];omega
theorem Zso{s:List UInt8}{e:Ent}(h:(Kv e).1≠0):appJ s e=((Kv e).1,[]):=by unfold appJ;rw[Zgn h]
theorem Zx5{s:List UInt8}{e:Ent}(h:(Kv e).1=0)(h2:4096≤(Jv s).1.length∨32768<(Jv s).2+(Kv e).2.length):appJ s e=(7,[]):=by unfold appJ;rw[Zgq (by simp[h]),Zgn h2]
theorem Zsm{s:List UInt8}{e:Ent}(h:(Kv e).1=0)(h2:¬ (4096≤(Jv s).1.length∨32768<(Jv s).2+(Kv e).2.length)):appJ s e=(0,s.take (Jv s).2++(Kv e).2):=by unfold appJ;rw[Zgq (by simp[h]),Zgq h2]
theorem Im(s:ByteArray)(t:Nat):s.extract 0 t=bs (s.data.toList.take t):=by
 apply Zd2;rw[Zea];apply Zc9;rw[Ze9];show List.extract s.data.toList 0 t=s.data.toList.take t;rw[Zeo];simp
theorem P0{S:Nat→Prop}(s:ByteArray)(e:Ent)(v:Value)(hs:s.size≤140737488351232)(w:World)(hn:Wo w S v e.names)(hsz:(Vx e).length+100≤140737488355328) :
 Calls prog 35 #[.string s,Gn e v] w fun x w'=>x=.returned (.tuple #[.string (bs (appJ s.data.toList e).2),.int .i64 (appJ s.data.toList e).1])∧Ext w w':=by
 obtain⟨A,c,rfl⟩:=hn.shape;have hx0:Ext w (w.alloc (.cells #[.int .i64 e.cl,.int .i64 e.op,.int .i64 e.ttl,.int .i64 e.tick,.slice A e.names.length c] 83)):=(Yk w).alloc _;have Hn:=Y8 (hn.ext hx0);have Hx0:=Y8 hx0;obtain⟨code,ys,hcy⟩:∃ code ys,Kv e=(code,ys):=⟨_,_,rfl⟩;have Hcy:=Y8 hcy;clear hn hx0;unfold Gn;go_enter func35,ntmps35;go_wp2_with fail;refine(M9 e (.slice A e.names.length c) _ Hn.o hsz).mono ?_;rintro x w1 ⟨rfl,hx1⟩;have Hx1:=Y8 (Hx0.o.trans hx1);rw[hcy];clear hx1 hcy Hx0 Hn;simp only;by_cases hc0:code=0
 ·subst hc0;have hyl:=Zyt Hcy.o;obtain⟨n,hrn⟩:=gnX ((Jv s.data.toList).2);obtain⟨es,hre⟩:=gnX ((Jv s.data.toList).1);have hrl:n≤s.size:=by rw[← hrn];exact(Tr 4096 s.data.toList).1
  obtain⟨yb,hyb⟩:=gnX (bs ys);have hysz:yb.size=ys.length:=by rw[← hyb,Js]
  have Hyb:=Y8 hyb;have Hrn:=Y8 hrn;have Hre:=Y8 hre;have Hysz:=Y8 hysz;have hyl2:yb.size≤4200:=by omega
  rw[hyb];clear hyb hre hysz;go_wp2_with fail;refine(Tq s hs _).mono ?_;rintro x w2 ⟨hx2,v2,ps,rfl,hps,hents⟩;obtain⟨_,A2,c2,hv2,_⟩:=hents.1;subst hv2;have hpl:ps.length=es.length:=by rw[← Hre.o,← hps,Zq]
  have Hx2:=Y8 (Hx1.o.trans hx2);rw[hrn];have Hpl:=Y8 hpl;clear hps hents hx2 Hx1 hrn hpl;have hadd:wrap64 ((n:Int)+(yb.size:Int))=(n:Int)+(yb.size:Int):=by unfold wrap64;omega
  by_cases hfull:4096≤ps.length∨32768<n+yb.size
  ·have Hf:=Y8 (Zx5 (s:=s.data.toList) (e:=e) (by rw[Hcy.o]) (by rw[Hrn.o,Hre.o,Hcy.o,← Hpl.o,← Hysz.o];exact hfull));by_cases h1:4096≤ps.length
   ·have hd1:decide ((4096:Int)≤(ps.length:Int))=true:=by simp;omega
    clear hfull;go_wp2_with fail;go_ret2;exact⟨by rw[Hf.o];rfl,Hx2.o⟩
   have hd1:decide ((4096:Int)≤(ps.length:Int))=false:=by simp;omega
   have h2:32768<n+yb.size:=by rcases hfull with h|h;exact absurd h h1;exact h
   have hd2:decide ((32768:Int)<(n:Int)+(yb.size:Int))=true:=by simp;omega
   have hd3:(32768:Int)<(n:Int)+(yb.size:Int):=by omega
   clear hfull;go_wp2_with fail;go_ret2;exact⟨by rw[Hf.o];rfl,Hx2.o⟩
  have h1:¬ 4096≤ps.length:=fun h=>hfull (.inl h)
  have h2:¬ 32768<n+yb.size:=fun h=>hfull (.inr h)
  have Hf:=Y8 (Zsm (s:=s.data.toList) (e:=e) (by rw[Hcy.o]) (by rw[Hrn.o,Hre.o,Hcy.o,← Hpl.o,← Hysz.o];exact hfull));have hd1:decide ((4096:Int)≤(ps.length:Int))=false:=by simp;omega
  have hd2:decide ((32768:Int)<(n:Int)+(yb.size:Int))=false:=by simp;omega
  have hd3:¬ (32768:Int)<(n:Int)+(yb.size:Int):=by omega
  have q0:(0:Int)≤(n:Int):=by omega
  have q1:(n:Int)≤(s.size:Int):=by omega
  obtain⟨hdb,hhd⟩:=gnX (s.extract 0 n);have hhs:hdb.size≤s.size:=by rw[← hhd,Zft];omega
  have hno:¬ 9223372036854775807<hdb.size+yb.size:=by omega
  have Hfin:=Y8 (show hdb++yb=bs (appJ s.data.toList e).2 by
   rw[Hf.o,← hhd,Im,← Hyb.o,Hrn.o,Hcy.o,K9])
  clear hfull;go_wp2_with fail;go_ret2;exact⟨by rw[← Hfin.o,Hf.o];rfl,Hx2.o⟩
 have Hbad:=Y8 (Zso (s:=s.data.toList) (e:=e) (by rw[Hcy.o];exact hc0));have hcd:(code==0)=false:=by simpa using hc0
 go_wp2_with fail;go_ret2;exact⟨by rw[Hbad.o,Hcy.o];rfl,Hx1.o⟩
theorem Gh:(prog.info? 99).map (fun i=>(i.zero,i.size,i.bytes))=some (some (.agg #[.int .i64 0,.int .i64 0,.int .i64 0]),3,24):=by kernel_rfl
theorem Zol:prog.underlying 31=some (.slice 99):=by kernel_rfl
theorem Zij(l:List Sp):∀ u∈Vo l,u.oneCell'=true:=by
 induction l with
 | nil=>simp[Vo]
 | cons n r ih =>
  intro u hu;rw[Vo,Zj]at hu;rcases hu with hu|hu
  ·simp only[Oa,Zg,Zh,Zfi]at hu;rcases hu with rfl|rfl|rfl<;>rfl
  exact ih u hu
noncomputable def spE:Enc Sp where
 ty:=99
 sl:=31
 z:=3
 bytes:=24
 cells l:=Vo l
 app a b:=Bz a b
 len l:=Ls l
 one l:=Zij l
 und:=Zol
 i:=Classical.choose (Zgl Gh)
 zero:=.agg #[.int .i64 0,.int .i64 0,.int .i64 0]
 info:=(Yo (Zgl Gh)).1
 hz:=(Yo (Zgl Gh)).2.1
 hs:=(Yo (Zgl Gh)).2.2.1
 hb:=(Yo (Zgl Gh)).2.2.2
 hc:=rfl
 pos:=by omega
theorem Gi:(prog.info? 106).map (fun i=>(i.zero,i.size,i.bytes))=some (some (.agg #[.int .i64 0,.slice none 0 0]),2,32):=by kernel_rfl
theorem Zon:prog.underlying 32=some (.slice 106):=by kernel_rfl
abbrev MpS:={m:Mp // m.tv.oneCell'=true}
def Zi7(l:List MpS):List Value:=Vp (l.map Subtype.val)
theorem Zmc(l:List MpS):∀ u∈Zi7 l,u.oneCell'=true:=by
 induction l with
 | nil=>simp[Zi7,Vp]
 | cons o r ih =>
  intro u hu;obtain⟨o,ho⟩:=o;simp only[Zi7,Zg4,Vp,Zj]at hu;rcases hu with hu|hu
  ·simp only[N7,Zg,Zh,Zfi]at hu;rcases hu with rfl|rfl
   ·rfl
   exact ho
  exact ih u hu
noncomputable def mpE:Enc MpS where
 ty:=106
 sl:=32
 z:=2
 bytes:=32
 cells l:=Zi7 l
 app a b:=by simp[Zi7,Gc]
 len l:=by simp[Zi7,F9]
 one l:=Zmc l
 und:=Zon
 i:=Classical.choose (Zgl Gi)
 zero:=.agg #[.int .i64 0,.slice none 0 0]
 info:=(Yo (Zgl Gi)).1
 hz:=(Yo (Zgl Gi)).2.1
 hs:=(Yo (Zgl Gi)).2.2.1
 hb:=(Yo (Zgl Gi)).2.2.2
 hc:=rfl
 pos:=by omega
theorem Nu:(prog.info? 109).map (fun i=>(i.zero,i.size,i.bytes))=some (some (.agg #[.string ⟨#[]⟩,.string ⟨#[]⟩,.string ⟨#[]⟩]),3,48):=by kernel_rfl
theorem Zia:prog.underlying 49=some (.slice 109):=by kernel_rfl
noncomputable def nmE:Enc Nm where
 ty:=109
 sl:=49
 z:=3
 bytes:=48
 cells l:=Wh l
 app a b:=Ks a b
 len l:=Ly l
 one l:=Cu l
 und:=Zia
 i:=Classical.choose (Zgl Nu)
 zero:=.agg #[.string ⟨#[]⟩,.string ⟨#[]⟩,.string ⟨#[]⟩]
 info:=(Yo (Zgl Nu)).1
 hz:=(Yo (Zgl Nu)).2.1
 hs:=(Yo (Zgl Nu)).2.2.1
 hb:=(Yo (Zgl Nu)).2.2.2
 hc:=rfl
 pos:=by omega
structure Zxb where
 kind:Int
 cl:Int
 n:Int
 text:ByteArray
def Zht(a:Zxb):List Value:=[.int .i64 a.kind,.int .i64 a.cl,.int .i64 a.n,.string a.text]
def Ul:List Zxb→List Value
 | []=>[]
 | s::r=>Zht s++Ul r
theorem Tf:∀ l:List Zxb,(Ul l).length=l.length*4
 | []=>rfl
 | n::r=>by rw[Ul,Zs,Tf r];simp[Zht];omega
theorem Fd:∀ a b:List Zxb,Ul (a++b)=Ul a++Ul b
 | [],_=>rfl
 | n::r,b=>by simp[Ul,Fd r b]
theorem Zx4:∀ {l:List Zxb} {j:Nat} {s:Zxb},l[j]?=some s→(Ul l)[j*4]?=some (.int .i64 s.kind)∧(Ul l)[j*4+1]?=some (.int .i64 s.cl)∧(Ul l)[j*4+2]?=some (.int .i64 s.n)∧(Ul l)[j*4+3]?=some (.string s.text)
 | m::r,0,n,h=>by
  simp only[Zx,Yc]at h;subst h;simp[Ul,Zht]
 | m::r,j+1,n,h=>by
  obtain⟨h1,h2,h3,h4⟩:=Zx4 (l:=r) (j:=j) (s:=n) (by simpa using h);have hm:(Zht m).length=4:=rfl;have e:∀ k,(Ul (m::r))[(j+1)*4+k]?=(Ul r)[j*4+k]?:=fun k=>by
   rw[Ul,Zd (by omega),hm];congr 1;omega
  refine⟨?_,?_,?_,?_⟩
  ·have:=e 0;simp only[Zfu]at this;rw[this,h1]
  ·rw[e 1,h2]
  ·rw[e 2,h3]
  rw[e 3,h4]
theorem Znk(l:List Zxb):∀ u∈Ul l,u.oneCell'=true:=by
 induction l with
 | nil=>simp[Ul]
 | cons n r ih =>
  intro u hu;rw[Ul,Zj]at hu;rcases hu with hu|hu
  ·simp only[Zht,Zg,Zh,Zfi]at hu;rcases hu with rfl|rfl|rfl|rfl<;>rfl
  exact ih u hu
theorem Dt:(prog.info? 78).map (fun i=>(i.zero,i.size,i.bytes))=some (some (.agg #[.int .i64 0,.int .i64 0,.int .i64 0,.string ⟨#[]⟩]),4,40):=by kernel_rfl
theorem Zla:prog.underlying 39=some (.slice 78):=by kernel_rfl
noncomputable def Zvj:Enc Zxb where
 ty:=78
 sl:=39
 z:=4
 bytes:=40
 cells l:=Ul l
 app a b:=Fd a b
 len l:=Tf l
 one l:=Znk l
 und:=Zla
 i:=Classical.choose (Zgl Dt)
 zero:=.agg #[.int .i64 0,.int .i64 0,.int .i64 0,.string ⟨#[]⟩]
 info:=(Yo (Zgl Dt)).1
 hz:=(Yo (Zgl Dt)).2.1
 hs:=(Yo (Zgl Dt)).2.2.1
 hb:=(Yo (Zgl Dt)).2.2.2
 hc:=rfl
 pos:=by omega
structure OpF(w:World)(b:Nat)(o:Opn):Prop where
 c0:w.cell? ⟨b,0,none⟩=some (.int .i64 o.cl)
 c1:w.cell? ⟨b,1,none⟩=some (.int .i64 o.op)
 c2:w.cell? ⟨b,2,none⟩=some (.int .i64 o.ttl)
 c3:w.cell? ⟨b,3,none⟩=some o.nv
 c22:w.cell? ⟨b,22,none⟩=some (.int .i64 o.res.tick)
theorem Zza.f{w:World}{b:Nat}{o:Opn}(h:Zza w b 0 o):OpF w b o :=
 ⟨(h.2 0 (by omega)),(h.2 1 (by omega)),(h.2 2 (by omega)),(h.2 3 (by omega)),(h.2 22 (by omega))⟩
def Ku(o:Opn):Option Ent:=if(o.bad.e==0)&&(o.res.e==0)&&!(o.op==7)then some ⟨o.cl,o.op,o.ttl,o.res.tick,o.ns⟩else none
def Uw(os:List Opn)(l:List Nat):List Ent:=l.filterMap fun j=>(os[j]?).bind Ku
theorem Fw(os:List Opn)(l:List Nat)(j:Nat):Uw os (l++[j])=Uw os l++((os[j]?).bind Ku).toList:=by
 unfold Uw;rw[List.filterMap_append];cases h:(os[j]?).bind Ku<;>simp[h]
theorem Sm{os:List Opn}{l:List Nat}{i j:Nat}{o:Opn}{es:List Ent}(h:es=Uw os (l.take i))(hj:l[i]?=some j)(ho:os[j]?=some o)(hn:Ku o=none):es=Uw os (l.take (i+1)):=by
 rw[Za,hj,Ze2,Fw,ho,Zcf,hn,← h];simp
theorem Zrw{os:List Opn}{l:List Nat}{i j:Nat}{o:Opn}{es:List Ent}{e:Ent}(h:es=Uw os (l.take i))(hj:l[i]?=some j)(ho:os[j]?=some o)(hn:Ku o=some e):es++[e]=Uw os (l.take (i+1)):=by
 rw[Za,hj,Ze2,Fw,ho,Zcf,hn,← h];simp
abbrev Znz:={p:Ent×Value // p.2.oneCell'=true}
def Zv0(l:List Znz):List Value:=Wg (l.map Subtype.val)
theorem Zrv(l:List Znz):∀ u∈Zv0 l,u.oneCell'=true:=by
 induction l with
 | nil=>simp[Zv0,Wg]
 | cons o r ih =>
  intro u hu;obtain⟨o,ho⟩:=o;simp only[Zv0,Zg4,Wg,Zj]at hu;rcases hu with hu|hu
  ·simp only[V8,Zg,Zh,Zfi]at hu;rcases hu with rfl|rfl|rfl|rfl|rfl;all_goals first|rfl|exact ho
  exact ih u hu
noncomputable def Zh7:Enc Znz where
 ty:=83
 sl:=43
 z:=5
 bytes:=56
 cells l:=Zv0 l
 app a b:=by simp[Zv0,Jf]
 len l:=by simp[Zv0,Dx]
 one l:=Zrv l
 und:=Zvz
 i:=Classical.choose (Zgl Bo)
 zero:=.agg #[.int .i64 0,.int .i64 0,.int .i64 0,.int .i64 0,.slice none 0 0]
 info:=(Yo (Zgl Bo)).1
 hz:=(Yo (Zgl Bo)).2.1
 hs:=(Yo (Zgl Bo)).2.2.1
 hb:=(Yo (Zgl Bo)).2.2.2
 hc:=rfl
 pos:=by omega
theorem Zjg(w:World)(a b c d:Int)(ns:List Nm)(A:Option Addr)(n k:Nat)(g:Nat)(hg:w.heap.size=g):RdE Zh7 (w.alloc (.cells #[.int .i64 a,.int .i64 b,.int .i64 c,.int .i64 d,.slice A n k] 83)) (fun _=>True) (.slice (some ⟨g,0,none⟩) 1 1) [⟨(⟨a,b,c,d,ns⟩,.slice A n k),rfl⟩]:=by
 subst hg;exact Zpn w a b c d (.slice A n k)
structure Zo8(w1 w:World)(v:Value)(ps:List Znz):Prop where
 own:Own Zh7 w w1.heap.size v ps
 nms:∀ p∈ps,Wo w (fun k=>w1.heap.size≤k∧v.ownBlock≠some k) p.1.2 p.1.1.names
 ext:Ext w1 w
theorem Zo8.up{w1 w w':World}{v:Value}{ps:List Znz}(h:Zo8 w1 w v ps)(x:Ext w w'):Zo8 w1 w' v ps:=⟨h.own.ext x,fun p hp=>Rd.ext (h.nms p hp) x,h.ext.trans x⟩
theorem Zo8.more{w1 w w':World}{v:Value}{ps:List Znz}{p:Znz}{o:Obj}{A:Option Addr}{n c:Nat}(h:Zo8 w1 w v ps)(hn:Wo w (fun k=>w1.heap.size≤k∧v.ownBlock≠some k) p.1.2 p.1.1.names)(hg:Grew Zh7 (w.alloc o) w1.heap.size v (ps++[p]) A n c w'):Zo8 w1 w' (.slice A n c) (ps++[p]):=by
 have key:∀ {u:Value} {l:List Nm},Wo w (fun k=>w1.heap.size≤k∧v.ownBlock≠some k) u l→Wo w' (fun k=>w1.heap.size≤k∧(Value.slice A n c).ownBlock≠some k) u l:=fun {u l} a=>by
  have h3:Wo (w.alloc o) (fun k=>(w1.heap.size≤k∧v.ownBlock≠some k)∧k<w.heap.size) u l:=Rd.ext (Rd.mono a fun k hk hl=>⟨hk,hl⟩) ((Yk _).alloc o);refine Rd.mono (Rd.chg h3 hg.chg (fun k hk e=>hk.1.2 e)) fun k hk _=>⟨hk.1.1,fun e=>?_⟩
  rcases hg.at_ with h5|h5
  ·exact hk.1.2 (h5.symm.trans e)
  rw[e]at h5;have h6:=Zgm h5;have:=hk.2;simp at h6;omega
 refine⟨hg.own,fun q hq=>?_,(h.ext.alloc o).chg_new hg.chg (fun k e=>(h.own.lt k e).1)⟩;rcases Zj.1 hq with hq|hq
 ·exact key (h.nms q hq)
 rw[Zi.1 hq];exact key hn
theorem Zo8.ents{w1 w:World}{v:Value}{ps:List Znz}(h:Zo8 w1 w v ps):Qr w (fun k=>w1.heap.size≤k) v (ps.map Subtype.val):=by
 refine⟨?_,fun p hp=>?_⟩
 ·rw[Zq];exact h.own.rd
 obtain⟨x,hx,rfl⟩:=Zgg.1 hp;exact Rd.mono (h.nms x hx) fun k hk _=>hk.1
theorem Zma{w:World}{S:Nat→Prop}{v:Value}{l:List Nat}(h:Zx0 w S v l){j i:Nat}(hj:l[j]?=some i) :
 ∃ g o c,v=.slice (some ⟨g,o,none⟩) l.length c∧S g∧g<w.heap.size∧w.cell? ⟨g,o+j,none⟩=some (.int .i64 (i:Int)):=by
 obtain⟨g,o,c,h1,h2,h3,h4,h5,h6⟩:=Rd.at_ h (Zr.1 hj).1;exact⟨g,o,c,h1,h4,h5,h6 j _ (by rw[Zn,hj];rfl)⟩
def Zzd(os:List Opn)(w:World)(e:Ending)(w':World):Prop:=∃ (v:Value) (ps:List (Ent×Value)),e=.returned v∧Qr w' (fun k=>w.heap.size≤k) v ps∧ps.map Prod.fst=Uw os (Us os)∧Ext w w'
def Dd(a b:Zzk):Bool:=a.e==b.e&&(a.at_==b.at_&&(a.nm.toList==b.nm.toList&&((a.rc.st==b.rc.st&&(a.rc.ow==b.rc.ow&&(a.rc.nm.toList==b.rc.nm.toList&&a.rc.dl==b.rc.dl)))&&a.tick==b.tick)))
def Ph(cl cp:Int)(l:List Kp)(tick:Int)(o:Opn):Int×List Kp×Int :=
 if o.bad.e≠0 then(if Dd o.res o.bad then 0 else 26,l,tick)
 else if o.res.tick<tick then(3,l,tick)
 else(if Dd (doR cl cp l o.cl o.op o.ttl o.res.tick o.ns) o.res then 0 else 26,doL cl cp l o.cl o.op o.ttl o.res.tick o.ns,o.res.tick)
abbrev RSt:=List Kp×Int×Bool
def Lj(st:RSt)(o:Opn):Int:=if st.2.2=true∧o.bad.e=0 then o.res.tick else st.2.1
def Er(st:RSt)(o:Opn):Bool:=if st.2.2=true∧o.bad.e=0 then false else st.2.2
def Ud(cl cp:Int)(st:RSt)(o:Opn):Int×RSt:=((Ph cl cp st.1 (Lj st o) o).1,(Ph cl cp st.1 (Lj st o) o).2.1,(Ph cl cp st.1 (Lj st o) o).2.2,Er st o)
def Zo5(w:World)(e:Ending)(w':World):Prop:=∃ cl cp:Int,1≤cl∧cl≤4∧1≤cp∧cp≤6∧e=.returned (.agg #[.int .i64 cl,.int .i64 cp])∧Ext w w'
theorem Zn1(a:Option Addr)(len cap:Nat)(w:World)(hrow:Eu w a len):Calls prog 11 #[.slice a len cap] w (Zo5 w):=by
 obtain⟨A,hA⟩:=gnX (w.heap.size);have hx0:Ext w (w.alloc (.cells #[.int .i64 0,.int .i64 0] 37)):=(Yk w).alloc _;have hsrc:=Bx (cap:=cap) hrow hx0;have c0:((w.alloc (.cells #[.int .i64 0,.int .i64 0] 37)).alloc (.cells #[.slice a len cap,.int .i64 0] 165)).cell? ⟨w.heap.size,0,none⟩=some (.int .i64 0):=by go_simp
 have c1:((w.alloc (.cells #[.int .i64 0,.int .i64 0] 37)).alloc (.cells #[.slice a len cap,.int .i64 0] 165)).cell? ⟨w.heap.size,1,none⟩=some (.int .i64 0):=by go_simp
 have cf:∀ i,((w.alloc (.cells #[.int .i64 0,.int .i64 0] 37)).alloc (.cells #[.slice a len cap,.int .i64 0] 165)).frozen? ⟨w.heap.size,i,none⟩=false:=fun i=>by go_simp
 have hs:((w.alloc (.cells #[.int .i64 0,.int .i64 0] 37)).alloc (.cells #[.slice a len cap,.int .i64 0] 165)).heap.size=w.heap.size+2:=by simp
 have e1:(w.alloc (.cells #[.int .i64 0,.int .i64 0] 37)).heap.size=w.heap.size+1:=by simp
 rw[e1]at hsrc;have hx:Ext w ((w.alloc (.cells #[.int .i64 0,.int .i64 0] 37)).alloc (.cells #[.slice a len cap,.int .i64 0] 165)):=hx0.alloc _;have Hs:=Y8 (And.intro hsrc (And.intro c0 (And.intro c1 (And.intro cf (And.intro hs hx)))));clear hsrc c0 c1 cf hs e1 hx hx0 hrow;go_enter func11,ntmps11;go_wp2_with fail;refine(Si _ _ _ _).mono ?_;rintro e w0 ⟨rfl,rfl⟩;obtain⟨hsrc,c0,c1,cf,hs,hx⟩:=Hs.o;rw[hA]at c0 c1 cf hs hsrc;have Hx:=Y8 hx;have Hsrc:=Y8 hsrc;have HA:=Y8 hA;obtain⟨W,hW⟩:=gnX ((w.alloc (.cells #[.int .i64 0,.int .i64 0] 37)).alloc (.cells #[.slice a len cap,.int .i64 0] 165));rw[hW]at c0 c1 cf hs Hx Hsrc;clear hx hsrc Hs;go_wp2_with fail;refine(next_any _ _ (by omega) (by omega) _ _ Hsrc.o).mono ?_;rintro e w2 ⟨x,hx,rfl,hsrc2,hc2,hz2⟩;have c0:=(hc2.cell (p:=⟨A,0,none⟩) (by simp only;omega) (by simp only;omega)).trans c0;have c1:=(hc2.cell (p:=⟨A,1,none⟩) (by simp only;omega) (by simp only;omega)).trans c1;have cf:=fun i=>(hc2.frozen (p:=⟨A,i,none⟩) (by simp only;omega) (by simp only;omega)).trans (cf i)
 have Hx2:=Y8 (Hx.o.chg_new hc2 fun i hi=>by have:=HA.o;omega);have Hsrc2:=Y8 hsrc2;have hz:A+2≤w2.heap.size:=by omega
 have p0:(0:Int)≤(x:Int):=by omega
 clear hsrc2 hc2 hz2 Hsrc Hx hW hs hA;go_wp2_with fail;refine(next_any _ _ (by omega) (by omega) _ _ Hsrc2.o).mono ?_;rintro e w3 ⟨y,hy,rfl,hsrc3,hc3,hz3⟩;have c0:=(hc3.cell (p:=⟨A,0,none⟩) (by simp only;omega) (by simp only;omega)).trans c0;have c1:=(hc3.cell (p:=⟨A,1,none⟩) (by simp only;omega) (by simp only;omega)).trans c1;have cf:=fun i=>(hc3.frozen (p:=⟨A,i,none⟩) (by simp only;omega) (by simp only;omega)).trans (cf i)
 have Hx3:=Y8 (Hx2.o.chg_new hc3 fun i hi=>by have:=HA.o;omega);have p1:(0:Int)≤(y:Int):=by omega
 have hz:A+2≤w3.heap.size:=by omega
 clear hsrc3 hc3 hz3 Hsrc2 Hx2;go_wp2_with fail;refine Ys (v:=.agg #[.int .i64 (1+(x:Int)),.int .i64 (1+(y:Int))]) (by simp[results,results11,go_sem, *]) rfl ⟨1+(x:Int),1+(y:Int),by omega,by omega,by omega,by omega,rfl,?_⟩;(repeat refine Y0 ?_ (by have:=HA.o;simp only;omega) _)
 exact Hx3.o
theorem Zmd{cl cap:Int}(hc:Jx cl cap=3)(w:World):Calls prog 83 #[.agg #[.int .i64 cl,.int .i64 cap]] w fun e w'=>e=.returned (.tuple #[.pointer none,.int .i64 3])∧Ext w w' :=
 (Zwh cl cap w).mono fun e w' h=>by
   rcases h with⟨_,h1,h2⟩ | ⟨h0,_⟩
   ·exact⟨h1,h2⟩
   rw[hc]at h0;simp at h0
theorem Zqj{cl cap:Int}(hc:Jx cl cap=0)(w:World):Calls prog 83 #[.agg #[.int .i64 cl,.int .i64 cap]] w fun e w'=>∃ b m,e=.returned (.tuple #[.pointer (some ⟨b,0,none⟩),.int .i64 0])∧U9 w' b m cl cap []∧w.heap.size≤b∧w.heap.size≤m∧Ext w w' :=
 (Zwh cl cap w).mono fun e w' h=>by
   rcases h with⟨h0,_⟩ | ⟨_,h1⟩
   ·rw[hc]at h0;simp at h0
   exact h1
theorem Zn0{cl cap:Int}(h1:1≤cl)(h2:cl≤4)(h3:1≤cap)(h4:cap≤6):Jx cl cap=0:=by unfold Jx;rw[Zgq (by omega)]
def Zuv(st:RSt):Int:=if st.2.2=true then -9223372036854775808 else st.2.1
theorem Zzp{st:RSt}{o:Opn}(hb:o.bad.e=0)(hf : -9223372036854775808≤o.res.tick):o.res.tick<Lj st o↔o.res.tick<Zuv st:=by
 unfold Lj Zuv;cases h:st.2.2
 ·simp
 simp[hb];omega
theorem step_bad(cl cp:Int)(st:RSt){o:Opn}(hb:o.bad.e≠0):Ud cl cp st o=(if Dd o.res o.bad then 0 else 26,st):=by
 obtain⟨a,b,c⟩:=st;unfold Ud Ph Lj Er;simp[hb]
theorem Zp7(cl cp:Int)(st:RSt){o:Opn}(hb:o.bad.e=0)(hf : -9223372036854775808≤o.res.tick)(ht:o.res.tick<Zuv st):(Ud cl cp st o).1=3:=by
 have h1:=(Zzp (st:=st) hb hf).2 ht;unfold Ud Ph;rw[Zgq (by omega),Zgn h1]
theorem Zii(cl cp:Int)(st:RSt){o:Opn}(hb:o.bad.e=0)(hf : -9223372036854775808≤o.res.tick)(ht:¬ o.res.tick<Zuv st):Ud cl cp st o=(if Dd (doR cl cp st.1 o.cl o.op o.ttl o.res.tick o.ns) o.res then 0 else 26,(doL cl cp st.1 o.cl o.op o.ttl o.res.tick o.ns,o.res.tick,false)):=by
 have h1:=fun h=>ht ((Zzp (st:=st) hb hf).1 h)
 have h2:Er st o=false:=by unfold Er;cases h:st.2.2<;>simp[hb]
 unfold Ud Ph;rw[Zgq (by omega),Zgq h1,h2]
def Rb(op:Int)(rs:List Rc):Int:=rs.foldl (fun c r=>c+Xk r.st op) 0
theorem O9(op:Int):∀ (rs:List Rc) (c:Int),rs.foldl (fun c r=>c+Xk r.st op) c=c+Rb op rs
 | [],c=>by simp[Rb]
 | r::rs,c=>by
  unfold Rb;rw[Zd7,Zd7,O9 op rs,O9 op rs];omega
theorem Zox(op:Int)(rs:List Rc)(r:Rc):Rb op (rs++[r])=Rb op rs+Xk r.st op:=by
 unfold Rb;rw[Zeg];rfl
theorem Zzr(op:Int)(rs:List Rc)(r:Rc):Rb op (r::rs)=Xk r.st op+Rb op rs:=by
 unfold Rb;rw[Zd7,O9,← Rb];omega
structure Zt9(m:Wc):Prop where
 o0:1≤m.op
 o1:m.op≤7
 t1:Xh m.op=true→1≤m.ttl∧m.ttl≤1073741824
 t0:Xh m.op=false→m.ttl=0
 l0:1≤m.ns.length
 l1:m.ns.length≤16
 q:m.op=7→m.ns.length≤1
 srt:srt m.ns=true
 good:m.ns.all Jz=true
inductive K7 (m:Wc) (x:Shr):Int→Wc→Shr→Prop
 | idle:m.st=0→K7 m x 0 m x
 | bad (m':Wc):m.st=1→m'.st=7→m'.cl=m.cl→m'.i=m.i→m'.ns=[]→m'.ans.e≠0→K7 m x 3 m' x
 | req (m':Wc):m.st=1→m'.st=2→m'.cl=m.cl→m'.i=m.i→Zt9 m'→K7 m x 1 m' x
 | block (n:Nm) (c:Nat):m.st=2→m.i=(c:Int)→m.ns[c]?=some n→0≤Zm9 (Xd x.ks n.k)→Zm9 (Xd x.ks n.k)≠m.cl→K7 m x 2 m x
 | lock (n:Nm) (c:Nat) (v:Value):m.st=2→m.i=(c:Int)→m.ns[c]?=some n→((Xd x.ks n.k).st=1→0≤(Xd x.ks n.k).ow→(Xd x.ks n.k).ow=m.cl)→K7 m x 1 (Q2 m m.ns.length 3) {x with kv:=v,ks:=Jb x.ks n.k ⟨1,m.cl,⟨#[]⟩,0⟩}
 | read (n:Nm) (c:Nat) (v:Value):m.st=3→m.i=(c:Int)→m.ns[c]?=some n→K7 m x 1 (Q2 {m with rv:=v,rs:=m.rs++[Xd x.rs n.k]} m.ns.length 4) x
 | stay:m.st=4→(Wm x.cp m.op m.cl m.ttl x.clock x.sum (m.ns.zip m.rs)).e≠0∨m.op=7→K7 m x 3 {m with ans:=Wm x.cp m.op m.cl m.ttl x.clock x.sum (m.ns.zip m.rs),st:=6} x
 | go:m.st=4→(Wm x.cp m.op m.cl m.ttl x.clock x.sum (m.ns.zip m.rs)).e=0→m.op≠7→K7 m x 3 {m with ans:=Wm x.cp m.op m.cl m.ttl x.clock x.sum (m.ns.zip m.rs),st:=5} {x with sum:=x.sum+Rb m.op m.rs}
 | write (n:Nm) (r:Rc) (c:Nat) (D:Int) (v:Value):m.st=5→m.i=(c:Int)→m.ns[c]?=some n→m.rs[c]?=some r→(0≤m.ans.tick+m.ttl→m.ans.tick+m.ttl≤4000000000→D=m.ans.tick+m.ttl)→K7 m x 1 (Q2 m m.ns.length 6) {x with rv:=v,rs:=Jb x.rs n.k (Wn m.op m.cl D n r)}
 | free (n:Nm) (c:Nat) (v:Value):m.st=6→m.i=(c:Int)→m.ns[c]?=some n→K7 m x 1 (Q2 m m.ns.length 7) {x with kv:=v,ks:=Jb x.ks n.k ⟨0,0,⟨#[]⟩,0⟩}
 | reply:m.st=7→K7 m x 4 {m with st:=0} x
theorem Om(l:List Kp)(k:ByteArray)(r:Rc):(Jb l k r).length≤l.length+1:=by
 have:∀ (l:List Kp) d,(Vr k r d l).length≤l.length+1:=by
  intro l
  induction l with
  | nil=>intro d;cases d<;>simp[Vr]
  | cons p l ih =>
   intro d;rw[Vr];split
   ·have:=ih d;simp;omega
   split
   ·have h1:∀ l:List Kp,(Vr k r true l).length≤l.length:=by
     intro l
     induction l with
     | nil=>simp[Vr]
     | cons p l ih2 =>
      rw[Vr];split
      ·simp;omega
      simp;omega
    have:=h1 l;simp;omega
   have:=ih d;simp;omega
 exact this l _
structure Zsx(S:Nat→Prop)(T:Tbl)(mb xb:Nat)(m:Wc)(x:Shr)(w:World)(s:Int)(m':Wc)(x':Shr)(w':World):Prop where
 mach:Vy w' S T mb m'
 mok:MOk m'
 shr:Q1 w' S xb x'
 chg:Chg (fun j=>j=mb∨j=xb) w w'
 xok:∀ t,XOk t x→XOk (t+1) x'
 live:m'.st≠0→m.st≠0
 par:m.st=1→s=3∨m'.st=2
 rel:K7 m x s m' x'
def J3(S:Nat→Prop)(T:Tbl)(mb xb:Nat)(m:Wc)(x:Shr)(w:World)(e:Ending)(w':World):Prop :=
 ∃ (s:Int) (m':Wc) (x':Shr),e=.returned (.int .i64 s)∧Zsx S T mb xb m x w s m' x' w'
structure Gs(S:Nat→Prop)(T:Tbl)(mb xb:Nat)(m:Wc)(x:Shr)(w:World):Prop where
 mach:Vy w S T mb m
 mok:MOk m
 shr:Q1 w S xb x
 ne:mb≠xb
 sm:¬ S mb
 sx:¬ S xb
 new:∀ k,w.heap.size≤k→S k
 tbl:Xg w S T
theorem Vy.c{w:World}{S:Nat→Prop}{T:Tbl}{b:Nat}{m:Wc}(h:Vy w S T b m)(j:Nat){v:Value}(hv:(machC T m)[j]?=some v):w.cell? ⟨b,j,none⟩=some v:=by
 rw[h.cells.at_ j (Zr.1 hv).1,hv]
theorem Q1.c{w:World}{S:Nat→Prop}{b:Nat}{x:Shr}(h:Q1 w S b x)(j:Nat){v:Value}(hv:(Zi8 x)[j]?=some v):w.cell? ⟨b,j,none⟩=some v:=by
 rw[h.cells.at_ j (Zr.1 hv).1,hv]
theorem Vy.ext{w w':World}{S:Nat→Prop}{T:Tbl}{b:Nat}{m:Wc}(h:Vy w S T b m)(x:Ext w w'):Vy w' S T b m:=⟨h.cells.ext x,Rd.ext h.ns x,Rd.ext h.rs x⟩
theorem Q1.ext{w w':World}{S:Nat→Prop}{b:Nat}{x:Shr}(h:Q1 w S b x)(e:Ext w w'):Q1 w' S b x:=⟨h.cells.ext e,Rd.ext h.ks e,Rd.ext h.rs e⟩
theorem Vy.put{w:World}{S:Nat→Prop}{T:Tbl}{b:Nat}{m m':Wc}(h:Vy w S T b m)(hb:¬ S b){j:Nat}(hj:j<28){v:Value}(e:(machC T m).set j v=machC T m')(e1:m'.lv=m.lv)(e2:m'.ns=m.ns)(e3:m'.rv=m.rv)(e4:m'.rs=m.rs):Vy (w.setCell ⟨b,j,none⟩ v) S T b m' :=
 ⟨e▸h.cells.set (j:=j) hj v,by rw[e1,e2];exact RdE.far (E:=nmE) h.ns hb v,by rw[e3,e4];exact Rd.chg h.rs ((Chg.refl (· = b) w).setCell (p:=⟨b,j,none⟩) (.inl rfl) v) (fun _ hk e=>hb (e▸hk))⟩
theorem Q1.far{w:World}{S:Nat→Prop}{b c j:Nat}{x:Shr}(h:Q1 w S b x)(hne:b≠c)(hc:¬ S c)(v:Value):Q1 (w.setCell ⟨c,j,none⟩ v) S b x :=
 h.chg (U:=(· = c)) ((Chg.refl (· = c) w).setCell (p:=⟨c,j,none⟩) (.inl rfl) v) hne (fun _ hk e=>hc (e▸hk))
theorem Vy.far{w:World}{S:Nat→Prop}{T:Tbl}{b c j:Nat}{m:Wc}(h:Vy w S T b m)(hne:b≠c)(hc:¬ S c)(v:Value):Vy (w.setCell ⟨c,j,none⟩ v) S T b m :=
 h.chg (U:=(· = c)) ((Chg.refl (· = c) w).setCell (p:=⟨c,j,none⟩) (.inl rfl) v) hne (fun _ hk e=>hc (e▸hk))
theorem Zp6{S:Nat→Prop}(T:Tbl)(mb xb:Nat)(m:Wc)(x:Shr)(w:World)(h:Gs S T mb xb m x w)(hs:m.st=0):Calls prog 115 #[.pointer (some ⟨mb,0,none⟩),.pointer (some ⟨xb,0,none⟩)] w (J3 S T mb xb m x w):=by
 have z13:w.cell? ⟨mb,13,none⟩=some (.int .i64 m.st):=h.mach.c 13 rfl;have H:=Y8 h;have Hs:=Y8 hs;rw[hs]at z13;clear h hs;go_enter func115,ntmps115;go_wp2_with fail;go_ret;exact⟨0,m,x,rfl,H.o.mach,H.o.mok,H.o.shr,Chg.refl _ _,fun t h=>h.up,fun h=>h,fun h=>by rw[Hs.o]at h;simp at h,.idle Hs.o⟩
theorem Zty{S:Nat→Prop}(T:Tbl)(mb xb:Nat)(m:Wc)(x:Shr)(w:World)(h:Gs S T mb xb m x w)(hs:m.st=7):Calls prog 115 #[.pointer (some ⟨mb,0,none⟩),.pointer (some ⟨xb,0,none⟩)] w (J3 S T mb xb m x w):=by
 have z13:w.cell? ⟨mb,13,none⟩=some (.int .i64 m.st):=h.mach.c 13 rfl;have fz:=h.mach.cells.fz;have H:=Y8 h;have Hs:=Y8 hs;rw[hs]at z13;clear h hs;go_enter func115,ntmps115;go_wp2_with fail;go_ret;exact⟨4,{m with st:=0},x,rfl,H.o.mach.put H.o.sm (by omega) rfl rfl rfl rfl rfl,⟨by simp,by simp,H.o.mok.c0,H.o.mok.c1,fun h=>by simp at h,fun h=>by simp at h,fun h=>by simp at h,fun h=>by simp at h,fun h=>by simp at h⟩,
  H.o.shr.far H.o.ne.symm H.o.sm _,(Chg.refl _ _).setCell (.inl (.inl rfl)) _,fun t h=>h.up,fun h=>by simp at h,fun h=>by rw[Hs.o]at h;simp at h,.reply Hs.o⟩
theorem Zys{S:Nat→Prop}(v:Value)(os:List Opn)(w:World)(ho:Gt w S v os)(hn:os.length≤610000000000)(hns:∀ o∈os,o.ns.length*48≤140737488351232):Calls prog 15 #[v] w (Zzd os w):=by
 obtain⟨A,C,rfl⟩:=ho.shape;obtain⟨n,hnn⟩:=gnX (os.length);have Hnn:=Y8 hnn;have Ho:=Y8 ho;have Hns:=Y8 hns;rw[hnn]at hn⊢;clear hnn ho hns;go_enter func15,ntmps15;go_wp2_with fail;refine(Zq6 _ os _ (by have:=Ho.o;rwa [Hnn.o]at this) (by rw[Hnn.o];omega)).mono ?_;rintro e w1 ⟨rv,rfl,hrow,hx1⟩;obtain⟨m,hm⟩:=gnX ((Us os).length);obtain⟨Ar,Cr,rfl,hlr,hcr⟩:∃ Ar Cr,rv=.slice Ar m Cr∧m≤Cr∧Cr≤maxLen:=by
  obtain⟨_,Ar,Cr,h1,h2,h3,_⟩:=hrow;rw[hm]at h1 h2;exact⟨Ar,Cr,h1,h2,h3⟩
 have Hm:=Y8 hm;have Hrow:=Y8 hrow;have Hx1:=Y8 hx1;have hmn:m≤n:=by
  rw[← hm,← Hnn.o];exact Zwf os
 unfold maxLen at hcr;clear hrow hx1 hm;go_wp2_with fail;go_loopw [10,3] (fun o u wr=>∃ (i:Nat) (ps:List Znz),i≤m∧o=.int .i64 (i:Int)∧Zo8 w1 wr u ps∧ps.length≤i∧ps.map (fun p=>p.1.1)=Uw os ((Us os).take i)) (fun o _ _=>m-(intOf o).toNat);case atStart=>exact⟨0,[],by omega,rfl,⟨Own.nil _ _ _,by simp,Yk _⟩,by simp,by simp[Uw]⟩
 rename World=>wr
 obtain⟨i,ps,hi,rfl,hS,hpl,hps⟩:=hrel;obtain⟨Ao,Co,rfl,hlC,hCm⟩:=hS.own.shape;obtain⟨k,hk⟩:=gnX (ps.length);rw[hk]at hS hpl hlC⊢;have Hk:=Y8 hk;have S0:=Y8 hS;have Hps:=Y8 hps;unfold maxLen at hCm;clear hk hS hps;by_cases him:i<m
 ·obtain⟨hd_i,i0_i,i1_i⟩:=LTl i m;obtain⟨j,hj⟩:=geX (l:=(Us os)) (i:=i) (by rw[Hm.o];exact him);obtain⟨gr,pr,cr,hvr,_,hgr,cj⟩:=Zma (Rd.ext Hrow.o S0.o.ext) hj;rw[Hm.o]at hvr;simp only[Yd,Zg0]at hvr;obtain⟨rfl,rfl⟩:=hvr;have hjn:j<n:=by rw[← Hnn.o];exact Fy ((Kb os).mem j |>.1 (Zy hj))
  obtain⟨o,hoj⟩:=geX (l:=os) (i:=j) (by rw[Hnn.o];exact hjn);obtain⟨g,p,c,hv,hc1,hc2,_,hA,hN⟩:=(Ho.o.ext (Hx1.o.trans S0.o.ext)).get hoj;rw[Hnn.o]at hv;simp only[Yd,Zg0]at hv;obtain⟨rfl,rfl⟩:=hv;unfold maxLen at hc2;have HA:=Y8 hA;obtain⟨nA,nC,hnv⟩:=hN.shape;have hone:o.nv.oneCell'=true:=by rw[hnv];rfl
  have HN:=Y8 hN;have hns16:=Hns.o o (Zy hoj);have Hj:=Y8 hj;have Hoj:=Y8 hoj;have j0:(0:Int)≤(j:Int):=by omega
  have j1:(j:Int)<(n:Int):=by omega
  clear hj hoj hN hnv hA;go_upto_region 6 with(first|(refine Ua HA.o rfl ?_)|(refine K0 rfl rfl rfl hone ?_));have hOp:=Zks wr o;have hXa:=(Yk wr).alloc (opO o);obtain⟨bo,hbo⟩:=gnX (wr.heap.size);obtain⟨W1,hW1⟩:=gnX (wr.alloc (opO o));rw[hW1,hbo]at hOp;rw[hW1]at hXa;rw[hW1,hbo];have S1:=Y8 (S0.o.up hXa);have N1:=Y8 (Rd.ext HN.o hXa);have f0:=hOp.2 0 (by omega);have f1:=hOp.2 1 (by omega);have f2:=hOp.2 2 (by omega);have f3:=hOp.2 3 (by omega);have f4:=hOp.2 4 (by omega);have f15:=hOp.2 15 (by omega);have f22:=hOp.2 22 (by omega);simp only[opC,Zg7,Zx,Zw]at f0 f1 f2 f3 f4 f15 f22;have HO:=Y8 hOp;have hob:=hOp.1;have Hbo:=Y8 hbo;clear hXa hOp hW1 hbo cj HA hone;cases h1:(o.bad.e==0)
  ·have hno:=Y8 (show Ku o=none by unfold Ku;rw[h1];rfl);go_wp2_with fail;go_roundw;case rel=>exact⟨i+1,ps,by omega,by go_num,by have:=S1.o;exact this,by rw[Hk.o];omega,Sm Hps.o Hj.o Hoj.o hno.o⟩
   (simp[intOf];omega)
  cases h2:(o.res.e==0)
  ·have hno:=Y8 (show Ku o=none by unfold Ku;rw[h1,h2];rfl);go_wp2_with fail;go_roundw;case rel=>exact⟨i+1,ps,by omega,by go_num,by have:=S1.o;exact this,by rw[Hk.o];omega,Sm Hps.o Hj.o Hoj.o hno.o⟩
   (simp[intOf];omega)
  cases h3:(o.op==7)
  rotate_left
  ·have hno:=Y8 (show Ku o=none by unfold Ku;rw[h1,h2,h3];rfl);go_wp2_with fail;go_roundw;case rel=>exact⟨i+1,ps,by omega,by go_num,by have:=S1.o;exact this,by rw[Hk.o];omega,Sm Hps.o Hj.o Hoj.o hno.o⟩
   (simp[intOf];omega)
  have hyes:=Y8 (show Ku o=some ⟨o.cl,o.op,o.ttl,o.res.tick,o.ns⟩ by unfold Ku;rw[h1,h2,h3];rfl);go_upto_region 7 with fail;have hns0:o.ns.length≤3000000000000:=by omega
  refine Zg8 (S:=fun w'=>OpF w' bo o) (by kernel_rfl) (HO.o.ext (Yk _).drew).f (fun hHeld=>?_);have Sd:=Y8 (S1.o.up (Yk W1).drew);have Od:=Y8 (HO.o.ext (Yk W1).drew);have Nd:=Y8 (Rd.ext N1.o (Yk W1).drew);obtain⟨Wd,hWd⟩:=gnX (W1.drew);rw[hWd]at Sd Od Nd hHeld;rw[hWd];clear hWd S1 HO N1 f0 f1 f2 f3 f4 f15 f22 hob;refine tksX [0,1,2,3,4,5,6,7,8,9,10,11] 5 hHeld ?_;simp only[Z3,Z4,Z5,Zw,Zx];repeat(refine tkcX (v:=?_) ?_ ?_;rotate_left;(focus((intro wT hST;obtain⟨h0,h1,h2,h3,h22⟩:=hST;go_simp);(first|done|(with_reducible rfl))));(try simp only[Act.put,Zv,Zu,Zt]))
  refine Xp ?_;clear hHeld;refine rdoX 12 (fun K hK=>?_);refine Zzt nmE (Operand.const (Value.slice none 0 0)) (.tmp 44) 49 (by rfl) (by rfl) (by rfl) (by rfl) (Own.nil nmE _ Wd.heap.size) (by rfl) Nd.o (by show 0+_≤maxLen;unfold maxLen;omega) (by show(0+_)*48≤_;omega) (Ym _) ?_;intro A5 n5 c5 w5 hg5;have X5:=Y8 (hg5.ext Wd (Yk _) (Ym _));have S5:=Y8 (Sd.o.up X5.o);have O5:=Y8 (Od.o.ext X5.o);have N5:=Y8 (show Wo w5 (fun q=>w1.heap.size≤q∧(Value.slice Ao k Co).ownBlock≠some q) (.slice A5 n5 c5) o.ns from by
   have h7:=hg5.own.rd;rw[Zo]at h7;have h8:=hg5.len;rw[Zo]at h8;subst h8;exact Rd.mono h7 fun q hq _=>⟨by have:=Sd.o.ext.size;omega,fun e=>by have:=(Sd.o.own.lt q e).2;omega⟩)
  clear hg5;refine hK.out _ _ O5.o.f (fun hHeld=>?_);clear hK K Sd Od Nd X5;try simp only[Act.put,Zv,Zu,Zt]
  refine tksX [13] 3 hHeld ?_;simp only[Z3,Z4,Z5,Zw,Zx];repeat(refine tkcX (v:=?_) ?_ ?_;rotate_left;(focus((intro wT hST;obtain⟨h0,h1,h2,h3,h22⟩:=hST;go_simp);(first|done|(with_reducible rfl))));(try simp only[Act.put,Zv,Zu,Zt]))
  refine Xp ?_;clear hHeld;refine rdoX 14 (fun K hK=>?_);go_simp;refine hK.out _ _ (O5.o.ext ((Yk _).alloc _)).f (fun hHeld=>?_);clear hHeld hK K;try simp only[Act.put,Zv,Zu,Zt]
  refine rdoX 15 (fun K hK=>?_);refine Zzt Zh7 (.tmp 33) (.tmp 47) 43 (by rfl) (by rfl) (by rfl) (by rfl) (S5.o.own.ext ((Yk _).alloc _)) (by rfl) (Zjg w5 o.cl o.op o.ttl o.res.tick o.ns A5 n5 c5 _ rfl) (by rw[Hk.o];show k+1≤maxLen;unfold maxLen;omega) (by rw[Hk.o];show(k+1)*56≤_;omega) (by have:=S5.o.ext.size;simp;omega) ?_;intro A6 n6 c6 w6 hg6;have S6:=Y8 (S5.o.more N5.o hg6);have O6:=Y8 ((O5.o.ext ((Yk _).alloc _)).chg hg6.chg (fun e=>by have:=(S0.o.own.lt bo e).2;have:=Hbo.o;omega));clear hg6;refine hK.out _ _ O6.o.f (fun hHeld=>?_);clear hK K;try simp only[Act.put,Zv,Zu,Zt]
  refine tksX [16] 0 hHeld ?_;simp only[Z3,Z4,Z5,Zw,Zx];repeat(refine tkcX (v:=?_) ?_ ?_;rotate_left;(focus((intro wT hST;obtain⟨h0,h1,h2,h3,h22⟩:=hST;go_simp);(first|done|(with_reducible rfl))));(try simp only[Act.put,Zv,Zu,Zt]))
  refine Xp ?_;clear hHeld;refine dneX ?_;go_wp2_with fail;go_roundw;case rel=>exact⟨i+1,_,by omega,by go_num,S6.o,by rw[Zs,Hk.o];show k+1≤_;omega,by rw[Yy];exact Zrw Hps.o Hj.o Hoj.o hyes.o⟩
  (simp[intOf];omega)
 have hd_i:=GEl i m;obtain rfl:i=m:=by omega
 go_wp2_with fail;go_ret;refine⟨_,_,rfl,Qr.mono S0.o.ents (fun k hk=>Zgo Hx1.o.size hk),?_,Hx1.o.trans S0.o.ext⟩;rw[Zez,← List.take_length (l:=Us os),Hm.o];exact Hps.o
