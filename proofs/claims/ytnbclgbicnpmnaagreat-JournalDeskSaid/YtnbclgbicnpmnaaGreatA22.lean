/- Lemmas of this claim: SortAny, MKeys, RecL, Prg, Rcg, Calls, KeepSame, MStA, Recov, Entry2, SameS, Written, Awake33. Conditions: as named. -/
import Derived.Sort.OwnSorted
import Derived.Maps.RangeWalk
import Derived.Sort.KeysCollected
import Derived.Deep.CutBlock
import Derived.Test.YtnbclgbicnpmnaaGreatSort
import Derived.Test.YtnbclgbicnpmnaaGreatA18
namespace Go.Proofs.YtnbclgbicnpmnaaGreat
open Go.RowKit Go.Sort Go.Proofs.Tryz
set_option maxHeartbeats 0
set_option maxRecDepth 100000
set_option linter.all false
theorem Zs6(k:ByteArray):encStr k.data.toList=.string k:=by cases k;rfl
theorem Zll(base:Nat)(v:Value)(ss:List (List UInt8))(w:World)(h:w.ownsRow base 9 1 v ss.length (ss.map encStr))(hsz:ss.length≤4096) :
 Calls prog 124 #[v] w fun e w'=>e=.returned (.tuple #[])∧w'.ownsRow base 9 1 v ss.length ((ss.mergeSort fun x y=>decide (x≤y)).map encStr)∧w.grownBy w' v.ownBlock:=by
 rcases h.2 with⟨hv,h0⟩ | ⟨g,cap,cur,hv,hbase,hb,h1,h2,h3,h4⟩
 ·subst hv;have hs:ss=[]:=Zgb h0;subst hs;have hcon:=AnyM.slices_Sort_string_none Tryz.mSort none 0 w;change Calls prog 124 _ _ _ at hcon;refine hcon.mono ?_;rintro e w' ⟨rfl,rfl⟩;exact⟨rfl,by simpa using h,World.grownBy.refl _ _⟩
 subst hv;have hcon:=AnyM.slices_Sort_string Tryz.mSort g 0 cap ss w (holds_of_block hb (by simpa using h4)) (Zgk.1 hb).1 (by omega);change Calls prog 124 _ _ _ at hcon;refine hcon.mono ?_;rintro e w' ⟨rfl,k,os,rfl⟩;exact⟨rfl,ownsRow_sorted (by simp) hbase hb h1 h2 h3,grownBy_sorted _⟩
def Znw(ks:List (List UInt8))(w:World)(e:Ending)(w':World):Prop:=∃ v,e=.returned v∧w'.ownsRow w.heap.size 9 1 v ks.length (ks.map encStr)∧Ext w w'
open Go.Maps (Keyed string_keyed)
def Dn(l:List Kp):List (List UInt8):=l.map fun p=>kb p.1
theorem Nk(l:List Kp):(Dn l).length=l.length:=Zq _
theorem Zr9{l:List Kp}(h:Aq l):Asc (Dn l):=Zco.2 h
theorem Zhm(x:List UInt8):kb ⟨x.toArray⟩=x:=rfl
theorem Zql{l:List Kp}{x:List UInt8}:x∈Dn l↔∃ p∈l,kb p.1=x:=Zgg
theorem Zwn{D:DataW Unit}{l:List Kp}(h:Mo D l){left:Lit→Bool}{ss:List (List UInt8)}(hC:Collected D left ss)(hl:∀ kl,left kl=false):(ss.mergeSort fun x y=>decide (x≤y))=Dn l:=by
 refine P2 (Zng hC.1) (Zr9 h.asc) fun x=>?_
 rw[Zmf,hC.2 x,hl,Zql];have hh:=h.has ⟨x.toArray⟩;rw[Zhm]at hh;simp only[Zfw];rw[hh];constructor
 ·rintro⟨p,hp,e⟩;exact⟨p,hp,by rw[e,Zhm]⟩
 rintro⟨p,hp,e⟩;exact⟨p,hp,Nn e⟩
theorem Zlr(v:Value)(y:DataW Unit×List MemPlace)(h:Zo2 v=some y):∃ r,v=rcV r:=by
 obtain⟨r,h1,_⟩:=Zwa h;exact⟨r,h1⟩
theorem Zmq(key:Value)(kl:Lit)(h:keyOf prog 9 key=some kl):∃ x,key=encStr x:=by
 obtain⟨x,hx,_⟩:=Go.Maps.keyOf_str Ff h;exact⟨x,hx⟩
theorem Zqk(b m:Nat)(cl cap:Int)(l:List Kp)(w:World)(h:U9 w b m cl cap l)(hll:l.length≤4000) :
 Calls prog 85 #[.pointer (some ⟨b,0,none⟩)] w (Znw (Dn l) w):=by
 obtain⟨i0,hi,hz0,hz1,hz2⟩:=Zgl Bn;obtain⟨D,hown,hD⟩:=h.map;have c2:=h.c2;have hml:=h.map.lt;have HD:=Y8 hD;have hsz:=hD.size;clear hD h;go_enter func85,ntmps85;go_wp2_with (first
  | (at_range;refine wpList_range_own _ rfl _ 191 rfl 9 51 O7 Pv Zo2 m l.length D rfl hown ?_;intro w0 hrg0 hg0 hs0))
 go_frame;have hlow:=hrg0;clear hown;go_loopw [3] (fun v wr=>∃ (left:Lit→Bool) (cnt:Nat) (ss:List (List UInt8)),wr.ranges prog 9 Zo2 m w.heap.size l.length D left cnt∧ss.length+cnt≤l.length∧wr.ownsRow w.heap.size 9 1 v ss.length (ss.map encStr)∧Collected D left ss∧Ext w wr)
  (fun _ wr=>wr.rangeLeft m w.heap.size)
 case atStart=>exact⟨_,_,[],hrg0,by rw[hsz];simp,Zfj _ _ _ _,Collected.start D,(Yk w).grown hg0 (fun k hk=>by cases hk)⟩
 obtain⟨left,cnt,ss,hrg,hcs,hrow,hC,hx⟩:=hrel;obtain⟨la,lc,rfl⟩:=Wv hrow;have hxs:=hx.size;go_wp2_with (first
  | (at_next;refine wpList_next_ranges _ rfl _ rfl 9 O7 Zo2 encStr rcV Zmq Zlr m w.heap.size l.length _ _ _ rfl hrg ?_ ?_))
 ·intro hc0 hl0;go_wp2_with (go_at_call 124;refine(Zll w.heap.size _ ss _ hrow (by omega)).mono ?_;rintro e w' ⟨rfl,hs,hgs⟩);go_ret;rw[Zwn HD.o hC hl0]at hs;have hle:(Dn l).length=ss.length:=by rw[← Zwn HD.o hC hl0,List.length_mergeSort]
  rw[← hle]at hs⊢;exact⟨_,rfl,hs,hx.grown hgs fun k hk=>(hrow.lt k hk).1⟩
 intro x c kl yd yp w2 cnt2 hkey hlk hv hat hrg2 hlt hg2 hs2 hen;obtain⟨x',ex,rfl,_⟩:=Go.Maps.keyOf_str Ff hkey;obtain rfl:x=x':=encStr_inj ex;have hrow2:=hrow.kept hg2 (Or.inr (row_ne_iter hrow hrg).symm);have hx2:=hx.grown hg2 (fun k hk=>by cases hk;exact Ym _);have hxs2:=hx2.size;clear hs2;go_wp2_with (first
  | (at_builtin;refine wpList_append_own _ rfl _ _ 24 rfl w.heap.size 9 i0 _ 1 16 Zvy hi hz0 hz1 hz2 rfl (by decide) _ _ _ rfl (hrow2.alloc _) ⟨w2.heap.size,0,none⟩ 1 1 [encStr x] rfl rfl (cell_one_new _ _ _) (by simp[Value.oneCell',encStr]) (by unfold maxLen at *;omega) (by omega) (by simp;omega) ?_;intro v' w3 hown' hg3 hnil3;go_frame))
 have hrg3:=(hrg2.alloc _).kept hg3 (row_ne_low hrow2 hml) (row_ne_iter hrow2 hrg2);go_roundw;case rel =>
  refine⟨_,cnt2,ss++[x],hrg3,by simp;omega,by simpa using hown',hC.step hlk hat,?_⟩;exact(hx2.alloc _).grown hg3 (fun j hj=>(hrow2.lt j hj).1)
 case measure=>rw[hrg3.left_eq,hrg.left_eq];exact hlt
def Ue(cl cp:Int):Int→List Kp→List Ent→Option (List Kp×Int)
 | t,l,[]=>some (l,t)
 | t,l,e::es=>if e.tick<t∨(doR cl cp l e.cl e.op e.ttl e.tick e.names).e≠0 then none else Ue cl cp e.tick (doL cl cp l e.cl e.op e.ttl e.tick e.names) es
theorem Fj{cl cp t:Int}{l:List Kp}{e:Ent}{es:List Ent}(h:e.tick<t∨(doR cl cp l e.cl e.op e.ttl e.tick e.names).e≠0):Ue cl cp t l (e::es)=none:=by rw[Ue,Zgn h]
theorem Mv{cl cp t:Int}{l:List Kp}{e:Ent}{es:List Ent}(h1:¬ e.tick<t)(h2:(doR cl cp l e.cl e.op e.ttl e.tick e.names).e=0):Ue cl cp t l (e::es)=Ue cl cp e.tick (doL cl cp l e.cl e.op e.ttl e.tick e.names) es:=by
 rw[Ue,Zgq];rintro(h|h)
 ·exact h1 h
 exact h h2
theorem Zzz:∀ (k:Nat) (s:List UInt8),∀ e∈(Kl k s).1,(Kv e).1=0
 | 0,_,e,h=>by simp[Kl]at h
 | k+1,s,e,h=>by
  rw[Kl]at h;cases hp:Q9 s with
  | none=>rw[hp]at h;simp at h
  | some p =>
   obtain⟨e',n⟩:=p;rw[hp]at h;simp only[Zg]at h;rcases h with rfl|h
   ·obtain⟨x,hx,_⟩:=Uv hp;rw[hx]
   exact Zzz k _ e h
theorem Zpj{s:List UInt8}{e:Ent}(h:e∈(Jv s).1):∀ n∈e.names,n.k.size≤maxLen:=by
 intro n hn;have h0:=Zzz _ _ e h;obtain⟨x,hx⟩:∃ x,Kv e=(0,x):=⟨(Kv e).2,by rw[← h0]⟩;have:=((Dy hx).1.names n hn).2.2;unfold maxLen;omega
theorem Kh{fn:Func}{t u v x:Tmp}(h:fn.results = #[.tmp t,.tmp u,.tmp v,.tmp x])(tmps:Array Value)(P:Program)(w:World) :
 (results fn tmps).run P w=.ok (.tuple #[tmps.getD t undef,tmps.getD u undef,tmps.getD v undef,tmps.getD x undef]) w:=by
 simp[results,h]
def Zt8(cl cp:Int)(s:ByteArray)(w:World)(x:Ending)(w':World):Prop :=
 Ext w w'∧((Jx cl cp=3∧x=.returned (.tuple #[.slice none 0 0,.slice none 0 0,.int .i64 0,.int .i64 3])) ∨
  (Jx cl cp=0∧Ue cl cp 0 [] (Jv s.data.toList).1=none∧x=.returned (.tuple #[.slice none 0 0,.slice none 0 0,.int .i64 0,.int .i64 26])) ∨
  (Jx cl cp=0∧∃ l t kv rv,Ue cl cp 0 [] (Jv s.data.toList).1=some (l,t)∧x=.returned (.tuple #[kv,rv,.int .i64 t,.int .i64 0])∧Rd w' (fun k=>w.heap.size≤k) 1 kv l.length ((Dn l).map encStr)∧Rd w' (fun k=>w.heap.size≤k) 4 rv l.length (Kt (l.map Prod.snd))))
def Ztn(x:Shr)(ms:List Wc):Prop:=∀ κ,(Xd x.ks κ).st=1→∃ (k:Nat) (m:Wc),ms[k]?=some m∧Ju m κ
theorem Ztn.step{x x':Shr}{ms:List Wc}{k:Nat}{m m':Wc}{s:Int}(h:Ztn x ms)(hk:ms[k]?=some m)(k0:MOk m)(hr:K7 m x s m' x'):Ztn x' (ms.set k m'):=by
 have put:∀ {κ},Ju m' κ→∃ (j:Nat) (q:Wc),(ms.set k m')[j]?=some q∧Ju q κ:=fun hl=>⟨k,m',Zc (Zr.1 hk).1,hl⟩
 have old:∀ κ,(Xd x.ks κ).st=1→(Ju m κ→Ju m' κ)→∃ (j:Nat) (q:Wc),(ms.set k m')[j]?=some q∧Ju q κ:=fun κ h1 hm=>by
  obtain⟨j,q,hq,hl⟩:=h κ h1;by_cases e:j=k
  ·subst e;rw[hk]at hq;obtain rfl:=Zgm hq;exact put (hm hl)
  exact⟨j,q,by rw[Zb (fun q=>e q.symm)];exact hq,hl⟩
 have none1:∀ {κ},(m.st=0∨m.st=1∨m.st=7)→¬ Ju m κ:=fun hs ⟨j,n,_,_,hj⟩=>by
  rcases hj with⟨q,_⟩ | ⟨q,_⟩ | ⟨q,_⟩<;>omega
 have es:=fun(q:Wc) l nx=>Qj (m:=q) (l:=l) (nx:=nx)
 cases hr with
 | idle e=>rw[set_self hk];exact h
 | block n c e=>rw[set_self hk];exact h
 | bad _ e=>exact fun κ h1=>old κ h1 fun hl=>absurd hl (none1 (.inr (.inl e)))
 | req _ e=>exact fun κ h1=>old κ h1 fun hl=>absurd hl (none1 (.inr (.inl e)))
 | reply e=>exact fun κ h1=>old κ h1 fun hl=>absurd hl (none1 (.inr (.inr e)))
 | stay e _ =>
  have hi:=k0.i4 e;refine fun κ h1=>old κ h1 ?_
  rintro⟨j,n,hn,eκ,_⟩;exact⟨j,n,hn,eκ,.inr (.inr ⟨rfl,by simp only;omega⟩)⟩
 | go e _ _ =>
  refine fun κ h1=>old κ h1 ?_
  rintro⟨j,n,hn,eκ,_⟩;exact⟨j,n,hn,eκ,.inr (.inl (by simp only;omega))⟩
 | read n c v e ei hn =>
  refine fun κ h1=>old κ h1 ?_
  rintro⟨j,n',hn',eκ,_⟩;rcases es {m with rv:=v,rs:=m.rs++[Xd x.rs n.k]} m.ns.length 4 with⟨_,e'⟩ | ⟨_,e'⟩<;>rw[e']
  ·exact⟨j,n',hn',eκ,.inr (.inl (by simp only;omega))⟩
  exact⟨j,n',hn',eκ,.inr (.inl (by simp only;omega))⟩
 | write n r c D v e ei hn hr hD =>
  refine fun κ h1=>old κ h1 ?_
  rintro⟨j,n',hn',eκ,_⟩;rcases es m m.ns.length 6 with⟨_,e'⟩ | ⟨_,e'⟩<;>rw[e']
  ·exact⟨j,n',hn',eκ,.inr (.inr ⟨rfl,by simp only;omega⟩)⟩
  exact⟨j,n',hn',eκ,.inr (.inl (by simp only;omega))⟩
 | lock n c v e ei hn hfree =>
  intro κ h1;simp only at h1;by_cases hκ:κ=n.k
  ·subst hκ;refine put ?_;rcases es m m.ns.length 3 with⟨_,e'⟩ | ⟨_,e'⟩<;>rw[e']
   ·exact⟨c,n,hn,rfl,.inr (.inl (by simp only;omega))⟩
   exact⟨c,n,hn,rfl,.inl ⟨e,by simp only;omega⟩⟩
  rw[Wr _ hκ]at h1;refine old κ h1 ?_;rintro⟨j,n',hn',eκ,hj⟩;have hj2:(j:Int)<m.i:=by
   rcases hj with⟨_,q⟩ | ⟨q,_⟩ | ⟨q,_⟩
   ·exact q
   ·omega
   omega
  rcases es m m.ns.length 3 with⟨_,e'⟩ | ⟨_,e'⟩<;>rw[e']
  ·exact⟨j,n',hn',eκ,.inr (.inl (by simp only;omega))⟩
  exact⟨j,n',hn',eκ,.inl ⟨e,by simp only;omega⟩⟩
 | free n c v e ei hn =>
  intro κ h1;simp only at h1;by_cases hκ:κ=n.k
  ·subst hκ;rw[Qq,Zgn rfl]at h1;exact absurd h1 (by decide)
  rw[Wr _ hκ]at h1;refine old κ h1 ?_;rintro⟨j,n',hn',eκ,hj⟩;have hj2:m.i≤(j:Int):=by
   rcases hj with⟨q,_⟩ | ⟨q,q'⟩ | ⟨_,q⟩
   ·omega
   ·omega
   exact q
  have hne:j≠c:=by
   rintro rfl;rw[hn]at hn';obtain rfl:=Zgm hn';exact hκ eκ.symm
  have hlt:=(Zr.1 hn').1;rcases es m m.ns.length 7 with⟨q,e'⟩ | ⟨q,e'⟩
  ·omega
  rw[e'];exact⟨j,n',hn',eκ,.inr (.inr ⟨e,by simp only;omega⟩)⟩
def Bf(x:Shr)(m:Wc)(n:Nm):Prop:=m.st=2∧∃ c:Nat,m.i=(c:Int)∧m.ns[c]?=some n∧0≤Zm9 (Xd x.ks n.k)
theorem Zoe{x:Shr}{m:Wc}{a b:Nm}(h1:Bf x m a)(h2:Bf x m b):a=b:=by
 obtain⟨_,c,hc,hn,_⟩:=h1;obtain⟨_,d,hd,hm,_⟩:=h2;have:c=d:=by omega
 subst this;rw[hn]at hm;exact Zgm hm
theorem Zu8{x:Shr}{ms:List Wc}(hL:Ztn x ms)(hS:∀ m∈ms,m.st=2→srt m.ns=true)(hw:∀ m∈ms,m.st≠0→∃ n,Bf x m n):∀ m∈ms,m.st=0:=by
 classical
 let F:List UInt8→Nat:=fun κ=>ms.countP fun m=>decide (∃ n,Bf x m n∧κ<kb n.k)
 have key:∀ N:Nat,∀ m∈ms,∀ n,Bf x m n→F (kb n.k)=N→False:=by
  intro N
  induction N using Nat.strongRecOn with
  | _ N ih =>
   intro m hm n hn hF;obtain⟨hs,c,hc,hnc,ho⟩:=hn;have hst:(Xd x.ks n.k).st=1:=by
    unfold Zm9 at ho;split at ho
    ·assumption
    omega
   obtain⟨j,q,hq,hl⟩:=hL n.k hst;have hqm:=Zy hq;have hq0:q.st≠0:=by
    obtain⟨_,_,_,_,hj⟩:=hl;rcases hj with⟨a,_⟩ | ⟨a,_⟩ | ⟨a,_⟩<;>omega
   obtain⟨n2,hn2⟩:=hw q hqm hq0;have hn2':=hn2;obtain⟨hs2,d,hd,hnd,_⟩:=hn2;obtain⟨i,n3,hn3,e3,hj⟩:=hl;have hid:i<d:=by
    rcases hj with⟨_,a⟩ | ⟨a,_⟩ | ⟨a,_⟩<;>omega
   have hlt:kb n.k<kb n2.k:=by
    have hp:=Zw5 (hS q hqm hs2);obtain⟨i1,rfl⟩:=Zr.1 hn3;obtain⟨d1,rfl⟩:=Zr.1 hnd;have:=Zfz.1 hp i d i1 d1 hid;unfold J0 at this;rw[e3]at this;exact this
   refine ih (F (kb n2.k)) ?_ q hqm n2 hn2' rfl;rw[← hF];show ms.countP _<ms.countP _;have hle:∀ l:List Wc,q∈l→l.countP (fun m=>decide (∃ n,Bf x m n∧kb n2.k<kb n.k))<l.countP (fun m=>decide (∃ a,Bf x m a∧kb n.k<kb a.k)):=by
    have mono:∀ l:List Wc,l.countP (fun m=>decide (∃ n,Bf x m n∧kb n2.k<kb n.k))≤l.countP (fun m=>decide (∃ a,Bf x m a∧kb n.k<kb a.k)):=fun l =>
     List.countP_mono_left fun a _ h=>by
      simp only[Zgh]at h⊢;obtain⟨b,h1,h2⟩:=h;exact⟨b,h1,Zet hlt h2⟩
    intro l
    induction l with
    | nil=>intro h;simp at h
    | cons a l ih2 =>
     intro hmem;rw[Zeb,Zeb];rcases Zg.1 hmem with rfl|hmem
     ·have h1:decide (∃ n,Bf x q n∧kb n2.k<kb n.k)=false:=Yf (by
       rintro⟨b,h1,h2⟩;rw[Zoe h1 hn2']at h2;exact Zfq _ h2)
      have h2:decide (∃ a,Bf x q a∧kb n.k<kb a.k)=true:=Ye ⟨n2,hn2',hlt⟩;rw[h1,h2];have:=mono l;simp;omega
     have h1:=ih2 hmem;have h2:(if decide (∃ n,Bf x a n∧kb n2.k<kb n.k)=true then 1 else 0)≤(if decide (∃ b,Bf x a b∧kb n.k<kb b.k)=true then 1 else 0:Nat):=by
      split
      ·rename_i h;have h3:decide (∃ b,Bf x a b∧kb n.k<kb b.k)=true:=by
        simp only[Zgh]at h⊢;obtain⟨b,h1,h2⟩:=h;exact⟨b,h1,Zet hlt h2⟩
       rw[Zgn h3];exact Ym _
      omega
     omega
   exact hle ms hqm
 intro m hm;refine Zfo fun h0=>?_
 obtain⟨n,hn⟩:=hw m hm h0;exact key _ m hm n hn rfl
def rank(m:Wc):Nat:=if m.st=0 then 0 else if m.st=7 then 17 else((8-m.st)*17-m.i).toNat
theorem Qs{m:Wc}(h0:m.st≠0)(h7:m.st≠7):rank m=((8-m.st)*17-m.i).toNat:=by unfold rank;rw[Zgq h0,Zgq h7]
theorem Zpp{m:Wc}(h:m.st=7):rank m=17:=by unfold rank;rw[Zgq (by omega),Zgn h]
theorem Zpo{m m':Wc}{x x':Shr}{s:Int}(k0:MOk m)(h0:m.st≠0)(hr:K7 m x s m' x')(hs:s≠2):rank m'<rank m:=by
 have n0:=k0.n0;have i4:=k0.i4;have e2:=k0.e2;have es:=fun(q:Wc) l nx=>Qj (m:=q) (l:=l) (nx:=nx)
 cases hr with
 | idle e=>exact absurd e h0
 | block n c e=>exact absurd rfl hs
 | bad _ e1 e2' _ ei =>
  have:=(e2 (by omega) (by omega)).2 e1;rw[Zpp e2',Qs h0 (by omega)];omega
 | req _ e1 e2' _ ei =>
  have:=(e2 (by omega) (by omega)).2 e1;rw[Qs (by omega) (by omega),Qs h0 (by omega)];omega
 | reply e=>rw[Zpp e];exact Zgp (by decide:0<17) (Ym _)
 | stay e _ =>
  have:=i4 e;rw[Qs (by simp) (by simp),Qs h0 (by omega)];simp only;omega
 | go e _ _ =>
  have:=i4 e;rw[Qs (by simp) (by simp),Qs h0 (by omega)];simp only;omega
 | read n c v e ei hn =>
  have:=n0 (by omega) (by omega);rw[Qs h0 (by omega)];rcases es {m with rv:=v,rs:=m.rs++[Xd x.rs n.k]} m.ns.length 4 with⟨q,e'⟩ | ⟨q,e'⟩<;>rw[e',Qs (by simp only;omega) (by simp only;omega)]<;>simp only at q⊢<;>omega
 | write n r c D v e ei hn hr hD =>
  have:=n0 (by omega) (by omega);have:=k0.n0 (by omega) (by omega);rw[Qs h0 (by omega)];rcases es m m.ns.length 6 with⟨q,e'⟩ | ⟨q,e'⟩<;>rw[e',Qs (by simp only;omega) (by simp only;omega)]<;>simp only at q⊢<;>omega
 | lock n c v e ei hn hfree =>
  have:=n0 (by omega) (by omega);rw[Qs h0 (by omega)];rcases es m m.ns.length 3 with⟨q,e'⟩ | ⟨q,e'⟩<;>rw[e',Qs (by simp only;omega) (by simp only;omega)]<;>simp only at q⊢<;>omega
 | free n c v e ei hn =>
  have:=n0 (by omega) (by omega);rw[Qs h0 (by omega)];rcases es m m.ns.length 7 with⟨q,e'⟩ | ⟨q,e'⟩<;>rw[e']
  ·rw[Zpp rfl];omega
  rw[Qs (by simp only;omega) (by simp only;omega)];simp only at q⊢;omega
theorem Fh{α:Type}(f:α→Nat):∀ {l:List α} {k:Nat} {a b:α},l[k]?=some a→((l.set k b).map f).sum+f a=(l.map f).sum+f b
 | [],_,_,_,h=>by simp at h
 | x::l,0,a,b,h=>by
  obtain rfl:x=a:=by simpa using h
  simp;omega
 | x::l,k+1,a,b,h=>by
  have:=Fh f (l:=l) (k:=k) (a:=a) (b:=b) (by simpa using h);simp only[Zt,Zg4,List.sum_cons];omega
theorem Zkm{α:Type}(f:α→Nat)(N:Nat):∀ {l:List α},(∀ a∈l,f a≤N)→(l.map f).sum≤N*l.length
 | [],_=>by simp
 | x::l,h=>by
  have:=Zkm f N (l:=l) fun a ha=>h a (by simp[ha])
  have:=h x (by simp);simp only[Zg4,List.sum_cons,Zl,Nat.mul_add,Zck];omega
theorem Zin{m:Wc}(h:MOk m):rank m≤136:=by
 unfold rank;split
 ·omega
 split
 ·omega
 have:=h.s0;have:=h.s1;have n0:=h.n0;have e2:=h.e2;rename_i a b;rcases(show m.st=1∨2≤m.st∧m.st≤6 by omega)with q | ⟨q1,q2⟩
 ·have:=(e2 (by omega) (by omega)).2 q;omega
 have:=n0 q1 q2;omega
def work(ms:List Wc)(bs:List (List ByteArray)):Nat:=(ms.map rank).sum+136*(bs.map List.length).sum
def Zvl(x:Shr)(ms:List Wc)(bs:List (List ByteArray))(n:Nat)(k:Nat):Prop :=
 ∃ m,ms[k]?=some m∧(m.st=0∧(bs[k]?=some []∨4096≤n)∨∃ a,Bf x m a)
theorem Zm2{x:Shr}{ms:List Wc}{bs:List (List ByteArray)}{n:Nat}(hL:Ztn x ms)(hS:∀ m∈ms,m.st=2→srt m.ns=true)(hn:n<4096)
 (h:∀ (k:Nat) m,ms[k]?=some m→(m.st≠0∨∃ y l,bs[k]?=some (y::l))→Zvl x ms bs n k):∀ (k:Nat) m,ms[k]?=some m→m.st=0∧∀ l,bs[k]?=some l→l=[]:=by
 have h0:=Zu8 hL hS fun m hm hs=>by
  obtain⟨k,hk⟩:=Zgd hm;obtain⟨m',hk',h1⟩:=h k m hk (.inl hs);rw[hk]at hk';obtain rfl:=Zgm hk';rcases h1 with⟨q,_⟩|q
  ·exact absurd q hs
  exact q
 intro k m hk;have hm:=h0 m (Zy hk);refine⟨hm,fun l hl=>?_⟩;cases l with
 | nil=>rfl
 | cons y l =>
  obtain⟨m',hk',h1⟩:=h k m hk (.inr ⟨y,l,hl⟩);rw[hk]at hk';obtain rfl:=Zgm hk';rcases h1 with⟨_,q|q⟩ | ⟨a,q⟩
  ·rw[hl]at q;cases q
  ·omega
  have:=q.1;omega
theorem Ps.idle{cl:Int}{x:Shr}{ms:List Wc}{M:List Kp}(h:Ps cl x ms M)(h0:∀ m∈ms,m.st=0)(κ:ByteArray):Xd x.rs κ=Xd M κ :=
 h.rcd κ fun m hm ⟨_,_,_,_,q,_⟩=>by have:=h0 m hm;omega
theorem Zyf:∀ {a b:List Kp},Aq a→Aq b→NZ a→NZ b→(∀ κ,Xd a κ=Xd b κ)→a=b
 | [],[],_,_,_,_,_=>rfl
 | p::a,[],ha,_,za,_,h=>by
  have e:Xd (p::a) p.1=p.2:=by rw[Xd,Zgn rfl]
  exact absurd (by rw[← e,h p.1];rfl) (za p (by simp))
 | [],q::b,_,hb,_,zb,h=>by
  have e:Xd (q::b) q.1=q.2:=by rw[Xd,Zgn rfl]
  exact absurd (by rw[← e,← h q.1];rfl) (zb q (by simp))
 | p::a,q::b,ha,hb,za,zb,h=>by
  obtain⟨a1,a2⟩:=Zg5.1 ha;obtain⟨b1,b2⟩:=Zg5.1 hb;have out:∀ (l:List Kp) (κ:ByteArray),(∀ p∈l,kb κ<kb p.1)→Xd l κ=default:=fun l κ hl=>by
   rcases Jr κ l with⟨q,_⟩ | ⟨r,hr,e,_⟩
   ·exact q
   exact absurd (hl r hr) (by rw[e];exact Zfq _)
  have e1:p.1=q.1:=by
   refine Zfo fun hne=>?_
   rcases Zr7 hne with hlt|hlt
   ·have:=h p.1;rw[Xd,Zgn rfl,Xd,Zgq (fun e=>hne e.symm),out b p.1 fun r hr=>Zet hlt (b1 r hr)]at this;exact absurd (by rw[this];rfl) (za p (by simp))
   have:=h q.1;rw[Xd,Zgq hne,out a q.1 fun r hr=>Zet hlt (a1 r hr),Xd,Zgn rfl]at this;exact absurd (by rw[← this];rfl) (zb q (by simp))
  have e2:p.2=q.2:=by
   have:=h p.1
   rwa [Xd,Zgn rfl,Xd,Zgn e1.symm]at this
  have e3:p=q:=Zbz e1 e2;subst e3;congr 1;refine Zyf a2 b2 (fun r hr=>za r (by simp[hr])) (fun r hr=>zb r (by simp[hr])) fun κ=>?_
  by_cases hκ:p.1=κ
  ·subst hκ;rw[out a p.1 a1,out b p.1 b1]
  have:=h κ
  rwa [Xd,Zgq hκ,Xd,Zgq hκ]at this
theorem Ztn.new{x:Shr}{ms:List Wc}(h:Ztn x ms){k:Nat}{m m':Wc}(hk:ms[k]?=some m)(h0:m.st=0):Ztn x (ms.set k m'):=fun κ h1=>by
 obtain⟨j,q,hq,hl⟩:=h κ h1;have hne:j≠k:=by
  rintro rfl;rw[hk]at hq;obtain rfl:=Zgm hq;obtain⟨_,_,_,_,hj⟩:=hl;rcases hj with⟨q,_⟩ | ⟨q,_⟩ | ⟨q,_⟩<;>omega
 exact⟨j,q,by rw[Zb (fun e=>hne e.symm)];exact hq,hl⟩
def Znn(x:Shr):Prop:=Aq x.rs∧NZ x.rs
theorem Znn.step{x x':Shr}{m m':Wc}{s:Int}(h:Znn x)(hr:K7 m x s m' x'):Znn x':=by
 cases hr with
 | write n r c D v e ei hn hr hD=>exact⟨Q7 h.1,Zwg h.2 _ _⟩
 | _=>exact h
theorem Znn.none{x:Shr}(h:x.rs=[]):Znn x:=by
 unfold Znn;rw[h];exact⟨List.Pairwise.nil,fun p hp=>by cases hp⟩
theorem Ztn.none{x:Shr}{ms:List Wc}(h:x.ks=[]):Ztn x ms:=fun κ h1=>by
 rw[h]at h1;exact absurd (show(default:Rc).st=1 from h1) (by decide)
theorem Rk{cl cp:Int}:∀ {es:List Ent} {t:Int} {l l':List Kp} {t':Int} {e:Ent},Ue cl cp t l es=some (l',t')→¬ e.tick<t'→(doR cl cp l' e.cl e.op e.ttl e.tick e.names).e=0→Ue cl cp t l (es++[e])=some (doL cl cp l' e.cl e.op e.ttl e.tick e.names,e.tick)
 | [],t,l,l',t',e,h,h1,h2=>by
  rw[Ue]at h;simp only[Yc,Zfk]at h;obtain⟨rfl,rfl⟩:=h;rw[Zo,Mv h1 h2,Ue]
 | x::es,t,l,l',t',e,h,h1,h2=>by
  by_cases hx:x.tick<t∨(doR cl cp l x.cl x.op x.ttl x.tick x.names).e≠0
  ·rw[Fj hx]at h;cases h
  have a1:¬ x.tick<t:=fun q=>hx (.inl q)
  have a2:(doR cl cp l x.cl x.op x.ttl x.tick x.names).e=0:=Classical.not_not.1 fun q=>hx (.inr q)
  rw[Mv a1 a2]at h;rw[Zd0,Mv a1 a2];exact Rk h h1 h2
theorem Zz2(client dl:Int)(n:Nm)(r:Rc):Wn 7 client dl n r=r:=by
 unfold Wn Jh J5 Ko J4;simp
theorem Cg{client dl:Int}{l:List Kp}(hz:NZ l):∀ (ns:List Nm) (l':List Kp),(∀ κ,Xd l' κ=Xd l κ)→∀ κ,Xd (Ji 7 client dl l' (Qy l ns)) κ=Xd l κ
 | [],_,h=>h
 | n::ns,l',h=>by
  rw[show Qy l (n::ns)=(n,Xd l n.k)::Qy l ns from rfl,V3,Zz2];refine Cg hz ns _ fun κ=>?_
  by_cases e:κ=n.k
  ·subst e;rw[Qq];split
   ·rename_i h0;rcases Jr n.k l with⟨q,_⟩ | ⟨p,hp,_,q⟩
    ·exact q.symm
    simp only at h0;exact absurd (by rw[← q];exact h0) (hz p hp)
   rfl
  rw[Wr _ e];exact h κ
theorem Zs3{cl cp client ttl now:Int}{l:List Kp}{ns:List Nm}(ha:Aq l)(hz:NZ l):doL cl cp l client 7 ttl now ns=l:=by
 refine Zyf (Zsk ha) ha (Zuj hz) hz fun κ=>?_
 unfold doL;split
 ·exact Cg hz ns l (fun _=>rfl) κ
 rfl
theorem Zhr{cl cp client op ttl now:Int}{l:List Kp}{ns:List Nm}(h:(doR cl cp l client op ttl now ns).e≠0):doL cl cp l client op ttl now ns=l:=by
 unfold doL;rw[Zgq];rintro⟨h1,h2⟩;unfold doR at h;rw[Zgn h1]at h;exact h h2
theorem Znc{cl cp:Int}{l:List Kp}{e:Ent}(hcl:cl≤64)(h7:e.op≠7)(h:(doR cl cp l e.cl e.op e.ttl e.tick e.names).e=0):Vn e=0:=by
 unfold doR at h;split at h
 ·rename_i hp;have p:Fe cl e.cl e.op e.ttl e.tick e.names:=Zfp hp;have hr:Qn e=true:=by
   have:=p.c0;have:=p.c1;have:=p.o0;have:=p.o1;have:=p.n0;have:=p.n1;have:=p.l0;have:=p.l1;have t1:=p.t1;have t0:=p.t0;unfold Qn;cases hq:Xh e.op
   ·have:=t0 hq;simp[*];omega
   have:=t1 hq;simp[*];omega
  unfold Vn;rw[hr,p.srt,show e.names.all Jt=true from p.good];rfl
 cases h
structure RcI(cl cp:Int)(es:List Ent)(st:RSt):Prop where
 go:∃ t,Ue cl cp 0 [] es=some (st.1,t)∧(st.2.2=true→t=0)∧(st.2.2=false→t≤st.2.1)
 asc:Aq st.1
 nz:NZ st.1
 chk:∀ e∈es,Vn e=0
theorem RcI.step{cl cp:Int}{es:List Ent}{st:RSt}{o:Opn}(h:RcI cl cp es st)(hcl:cl≤64)(h0:0≤o.res.tick)(hs:(Ud cl cp st o).1=0):RcI cl cp (es++(Ku o).toList) (Ud cl cp st o).2:=by
 obtain⟨⟨t,hg,ht1,ht2⟩,ha,hz,hc⟩:=h;by_cases hb:o.bad.e=0
 ·have hf : -9223372036854775808≤o.res.tick:=by omega
  have hl:¬ o.res.tick<Zuv st:=fun q=>by
   have:=Zp7 cl cp st hb hf q;omega
  have htt:t≤o.res.tick:=by
   unfold Zuv at hl;cases hq:st.2.2
   ·rw[hq]at hl;have:=ht2 hq;simp at hl;omega
   have:=ht1 hq;omega
  rw[Zii cl cp st hb hf hl]at hs⊢;have he:(doR cl cp st.1 o.cl o.op o.ttl o.res.tick o.ns).e=o.res.e:=by
   have hr:Dd (doR cl cp st.1 o.cl o.op o.ttl o.res.tick o.ns) o.res=true:=by
    cases hq:Dd (doR cl cp st.1 o.cl o.op o.ttl o.res.tick o.ns) o.res
    ·rw[hq]at hs;simp at hs
    rfl
   unfold Dd at hr;rw[Zgc]at hr;exact eq_of_beq hr.1
  by_cases h7:o.res.e=0
  ·by_cases hq:o.op=7
   ·have hn:Ku o=none:=by unfold Ku;simp[hb,h7,hq]
    have hd:doL cl cp st.1 o.cl o.op o.ttl o.res.tick o.ns=st.1:=by rw[hq];exact Zs3 ha hz
    rw[hn,hd,Zct,Zf4];exact⟨⟨t,hg,fun q=>(by cases q),fun _=>htt⟩,ha,hz,hc⟩
   have hn:Ku o=some ⟨o.cl,o.op,o.ttl,o.res.tick,o.ns⟩:=by unfold Ku;simp[hb,h7,hq]
   rw[hn,Ze2];refine⟨⟨o.res.tick,Rk hg (by simp only;omega) (by simp only;omega),fun q=>(by cases q),fun _=>Zfn _⟩,Zsk ha,Zuj hz,fun e hm=>?_⟩;rcases Zj.1 hm with q|q
   ·exact hc e q
   rw[Zi.1 q];exact Znc (cp:=cp) (l:=st.1) hcl hq (by simp only;omega)
  have hn:Ku o=none:=by unfold Ku;simp[h7]
  have hd:doL cl cp st.1 o.cl o.op o.ttl o.res.tick o.ns=st.1:=Zhr (by omega);rw[hn,hd,Zct,Zf4];exact⟨⟨t,hg,fun q=>(by cases q),fun _=>htt⟩,ha,hz,hc⟩
 have hn:Ku o=none:=by unfold Ku;simp[hb]
 rw[step_bad cl cp st hb,hn,Zct,Zf4];exact⟨⟨t,hg,ht1,ht2⟩,ha,hz,hc⟩
theorem Zz1.ents{cl cp:Int}{os:List Opn}{l:List Nat}{st:RSt}(h:Zz1 cl cp os l st)(hcl:cl≤64)(hk:∀ o∈os,0≤o.res.tick):RcI cl cp (Uw os l) st:=by
 induction h with
 | nil=>exact⟨⟨0,rfl,fun _=>rfl,fun q=>(by cases q)⟩,List.Pairwise.nil,fun p hp=>(by cases hp),fun e he=>by cases he⟩
 | snoc i o h1 h2 h3 ih =>
  rw[Fw,h2,Zcf];exact ih.step hcl (hk o (Zy h2)) h3
theorem Lin.rec{cl cp t:Int}{x:Shr}{ms:List Wc}{os:List Opn}{last:List Int}(h:Lin cl cp x ms os last t)(hr:Znn x)(hi:∀ m∈ms,m.st=0)(hcl:cl≤64)(hk:∀ o∈os,0≤o.res.tick) :
 (∃ tk,Ue cl cp 0 [] (Uw os (Us os))=some (x.rs,tk)∧tk≤x.clock)∧∀ e∈Uw os (Us os),Vn e=0:=by
 obtain⟨_,M,hX,_,st,hR,hM,hck⟩:=h;obtain⟨⟨tk,hg,h1,h2⟩,_,_,hc⟩:=hR.ents hcl hk;refine⟨⟨tk,?_,?_⟩,hc⟩
 ·rw[hg,hM,Zyf hr.1 hX.asc hr.2 hX.nz fun κ=>hX.idle hi κ]
 have:=hX.clk.1;cases hq:st.2.2
 ·have:=h2 hq;omega
 have:=h1 hq;omega
theorem Zrx{os:List Opn}{l:List Nat}{e:Ent}(h:e∈Uw os l):∃ o∈os,e.names=o.ns:=by
 obtain⟨j,_,hj⟩:=List.mem_filterMap.1 h;rw[Option.bind_eq_some_iff]at hj;obtain⟨o,ho,he⟩:=hj;unfold Ku at he;split at he
 ·simp only[Yc]at he;exact⟨o,Zy ho,by rw[← he]⟩
 cases he
theorem Zry(os:List Opn)(l:List Nat):(Uw os l).length≤l.length:=List.length_filterMap_le _ _
def Tj(l:List Ent):Prop:=∀ e∈l,(Kv e).1=0
theorem Ix:∀ {l:List Ent},Tj l→(Wj l).length≤4200*l.length
 | [],_=>by simp[Wj]
 | e::l,h=>by
  have h1:=Zyt (x:=(Kv e).2) (Zbz (h e (by simp)) rfl);have h2:=Ix (l:=l) fun x hx=>h x (by simp[hx])
  rw[Wj,Zs,Zl];omega
theorem Zzy{l:List Ent}(h:Tj l)(hl:l.length≤4096):Jv (Wj l)=(l,(Wj l).length):=by
 have:=Eh l 4096 [] hl h;rw[Fk Dj]at this;unfold Jv;simpa using this
theorem Zjr{l:List Ent}{e:Ent}(h:Tj l)(hl:l.length≤4096)(hc:Vn e=0):appJ (Wj l) e=(7,[])∨((Kv e).1=0∧appJ (Wj l) e=(0,Wj (l++[e]))):=by
 have h1:=Zzy h hl;by_cases hb:4096<(Vx e).length
 ·refine .inl ?_;have:=Zww hc hb;rw[Zso (by rw[this];decide),this]
 have he:(Kv e).1=0:=by rw[Zs7 hc hb]
 by_cases hf:4096≤(Jv (Wj l)).1.length∨32768<(Jv (Wj l)).2+(Kv e).2.length
 ·exact .inl (Zx5 he hf)
 refine .inr ⟨he,?_⟩;rw[Zsm he hf,h1];simp[Uk,Wj]
theorem Sr{v:Int}(h:I64 v):(code v).length≤10:=by unfold I64 at h;exact Vj h.1 h.2
theorem Zyi{s:List UInt8}(h:s.length≤9223372036854775807):(item s).length≤s.length+10:=by
 have:=Vj (v:=(s.length:Int)) (by omega) (by omega);rw[item,Zs];omega
theorem Cw:∀ {l:List Nm},KS l→(∀ n∈l,n.a.size≤63)→(Xo l).length≤100100000*l.length
 | [],_,_=>by simp[Xo]
 | n::l,h,ha=>by
  obtain⟨h3,h2⟩:=h n (by simp);have h1:=ha n (by simp);have h4:=Cw (l:=l) (fun x hx=>h x (by simp[hx])) fun x hx=>ha x (by simp[hx])
  have g1:n.a.data.toList.length≤63:=h1;have g2:n.u.data.toList.length≤100000000:=h2;have g3:n.k.data.toList.length≤16384:=h3;have k1:=Zyi (s:=n.a.data.toList) (by omega);have k2:=Zyi (s:=n.u.data.toList) (by omega);have k3:=Zyi (s:=n.k.data.toList) (by omega);rw[Xo,Zs,Vs,Zs,Zs,Zl];omega
theorem Zvf{e:Ent}(h:Vn e=0):I64 e.cl∧I64 e.op∧I64 e.ttl∧I64 e.tick∧e.names.length≤16∧∀ n∈e.names,n.a.size≤63:=by
 unfold Vn at h;cases hr:Qn e
 ·rw[hr]at h;simp at h
 rw[hr]at h;cases hs:srt e.names
 ·rw[hs]at h;simp at h
 rw[hs]at h;cases ha:e.names.all Jt
 ·rw[ha]at h;simp at h
 unfold Qn at hr;simp only[Zgc,Zgh]at hr;obtain⟨⟨⟨⟨⟨⟨⟨⟨a1,a2⟩,a3⟩,a4⟩,a5⟩,a6⟩,a7⟩,a8⟩,a9⟩:=hr;have ht:I64 e.ttl:=by
  unfold I64;split at a5
  ·simp only[Zgc,Zgh]at a5;omega
  have:=eq_of_beq a5;omega
 refine⟨by unfold I64;omega,by unfold I64;omega,ht,by unfold I64;omega,a9,fun n hn=>?_⟩;have:=Zfl.1 ha n hn;unfold Jt at this;simp only[Zgc,Zgh]at this;exact this.2
theorem Zmt{e:Ent}(h:Vn e=0)(hk:KS e.names):(Vx e).length+100≤140737488355328:=by
 obtain⟨h1,h2,h3,h4,h5,h6⟩:=Zvf h;have c1:=Sr h1;have c2:=Sr h2;have c3:=Sr h3;have c4:=Sr h4;have c5:=Vj (v:=(e.names.length:Int)) (by omega) (by omega);have c6:=Cw hk h6;have c7:(Wf e).length≤50:=by
  unfold Wf;simp only[Zs];omega
 rw[Vx,Zs];omega
theorem Zqu(b B:Nat)(w:World)(hs:Src B w b):Calls prog 50 #[.pointer (some ⟨b,0,none⟩)] w fun e w'=>(∃ v,e=.returned (.bool v))∧Src B w' b∧Chg (· = b) w w':=by
 have Hs:=Y8 hs;obtain⟨a,len,cap,i,hb,hB,hl,hi,hx⟩:=hs;have hc0:w.cell? ⟨b,0,none⟩=some (.slice a len cap):=by simp[World.cell?,hb]
 have hc1:w.cell? ⟨b,1,none⟩=some (.int .i64 (i:Int)):=by simp[World.cell?,hb]
 clear hb hx;go_enter func50,ntmps50;go_wp2_with fail;go_region;all_goals
  go_wp2;go_ret;exact⟨⟨_,rfl⟩,(by have hs:=Hs.o;repeat(first|assumption|apply Src.drew)),(by have hx:=Chg.refl (· = b) w;repeat(first|assumption|apply Chg.drew))⟩
theorem Zu4(va vb:Value)(l:List Nm)(S T:Nat→Prop)(w:World)(ha:Wo w S va l)(hb:Wo w T vb l) :
 Calls prog 53 #[va,vb] w fun e w'=>e=.returned (.bool true)∧Ext w w':=by
 obtain⟨A,ca,rfl⟩:=ha.shape;obtain⟨B,cb,rfl⟩:=hb.shape;have hlm:=ha.len;unfold maxLen at hlm;have Ha:=Y8 ha;have Hb:=Y8 hb;clear ha hb;go_enter func53,ntmps53;go_wp2_with fail;go_loopw [13] (fun o wr=>∃ i:Nat,i≤l.length∧o=.int .i64 (i:Int)∧Ext w wr) (fun o _=>l.length-(intOf o).toNat);case atStart=>exact⟨0,by omega,rfl,Yk _⟩
 obtain⟨i,hi,rfl,hx⟩:=hrel;have Hx:=Y8 hx;clear hx;by_cases hin:i<l.length
 ·have hd:decide ((i:Int)<(l.length:Int))=true:=by simpa using hin
  obtain⟨g,o,c',hv,p1,p2,_,_,hcell⟩:=(Ha.o.ext Hx.o).get (j:=i) hin;obtain⟨g',o',c'',hv',p3,p4,_,_,hcell'⟩:=(Hb.o.ext Hx.o).get (j:=i) hin;simp only[Yd,Zg0]at hv hv';obtain⟨rfl,rfl⟩:=hv;obtain⟨rfl,rfl⟩:=hv';obtain⟨a,hae⟩:∃ a,l[i]?=some a:=⟨l[i],by simp[hin]⟩;obtain⟨x1,x2,x3⟩:=hcell _ _ hae;obtain⟨y1,y2,y3⟩:=hcell' _ _ hae;have i0:(0:Int)≤(i:Int):=by omega
  have i1:(i:Int)<(l.length:Int):=by omega
  unfold maxLen at p2 p4;clear hcell hcell' hae;go_wp2_with fail;go_quiet (fail);go_wp2_with fail;go_roundw;case rel=>exact⟨i+1,by omega,by go_num,Hx.o.drewN _⟩
  simp[intOf];omega
 have hd:decide ((i:Int)<(l.length:Int))=false:=by simp;omega
 go_wp2_with fail;go_ret;exact⟨rfl,Hx.o⟩
theorem Qr.get{w:World}{S:Nat→Prop}{v:Value}{l:List (Ent×Value)}(h:Qr w S v l){j:Nat}(hj:j<l.length) :
 ∃ g o c,v=.slice (some ⟨g,o,none⟩) l.length c∧l.length≤c∧c≤maxLen∧S g∧g<w.heap.size∧∀ p,l[j]?=some p →
  w.cell? ⟨g,o+j*5,none⟩=some (.int .i64 p.1.cl)∧w.cell? ⟨g,o+j*5+1,none⟩=some (.int .i64 p.1.op)∧w.cell? ⟨g,o+j*5+2,none⟩=some (.int .i64 p.1.ttl)∧w.cell? ⟨g,o+j*5+3,none⟩=some (.int .i64 p.1.tick)∧w.cell? ⟨g,o+j*5+4,none⟩=some p.2∧Wo w S p.2 p.1.names:=by
 obtain⟨g,o,c,hv,h1,h2,h3,h4,hc⟩:=h.1.at_ hj;refine⟨g,o,c,hv,h1,h2,h3,h4,fun p hp=>?_⟩;have q0:=hc (j*5) (.int .i64 p.1.cl) (by have:=Qe hp 0 (by omega);simpa[V8]using this);have q1:=hc (j*5+1) (.int .i64 p.1.op) (by have:=Qe hp 1 (by omega);simpa[V8]using this);have q2:=hc (j*5+2) (.int .i64 p.1.ttl) (by have:=Qe hp 2 (by omega);simpa[V8]using this);have q3:=hc (j*5+3) (.int .i64 p.1.tick) (by have:=Qe hp 3 (by omega);simpa[V8]using this);have q4:=hc (j*5+4) p.2 (by have:=Qe hp 4 (by omega);simpa[V8]using this);rw[← Zfh]at q1 q2 q3 q4;exact⟨q0,q1,q2,q3,q4,h.2 p (Zy hp)⟩
theorem Qr.shape{w:World}{S:Nat→Prop}{v:Value}{l:List (Ent×Value)}(h:Qr w S v l):∃ A c,v=.slice A l.length c:=by
 obtain⟨_,A,c,hv,_⟩:=h.1;exact⟨A,c,hv⟩
theorem Zpd(va vb:Value)(l l':List (Ent×Value))(he:l.map Prod.fst=l'.map Prod.fst)(S T:Nat→Prop)(w:World)(ha:Qr w S va l)(hb:Qr w T vb l') :
 Calls prog 14 #[va,vb] w fun e w'=>e=.returned (.bool true)∧Ext w w':=by
 obtain⟨A,ca,rfl⟩:=ha.shape;obtain⟨B,cb,rfl⟩:=hb.shape;have hlm:=ha.1.len;unfold maxLen at hlm;have hll:l'.length=l.length:=by have:=congrArg List.length he;simpa using this.symm
 have Ha:=Y8 ha;have Hb:=Y8 hb;have He:=Y8 he;have Hll:=Y8 hll;clear ha hb he;rw[hll];clear hll;go_enter func14,ntmps14;go_wp2_with fail;go_loopw [15] (fun o wr=>∃ i:Nat,i≤l.length∧o=.int .i64 (i:Int)∧Ext w wr) (fun o _=>l.length-(intOf o).toNat);case atStart=>exact⟨0,by omega,rfl,Yk _⟩
 obtain⟨i,hi,rfl,hx⟩:=hrel;have Hx:=Y8 hx;clear hx;by_cases hin:i<l.length
 ·have hd:decide ((i:Int)<(l.length:Int))=true:=by simpa using hin
  obtain⟨g,o,c',hv,p1,p2,_,b1,hcell⟩:=(Ha.o.ext Hx.o).get (j:=i) hin;obtain⟨g',o',c'',hv',p3,p4,_,b2,hcell'⟩:=(Hb.o.ext Hx.o).get (j:=i) (by rw[Hll.o];exact hin);rw[Hll.o]at hv' p3;simp only[Yd,Zg0]at hv hv';obtain⟨rfl,rfl⟩:=hv;obtain⟨rfl,rfl⟩:=hv';obtain⟨a,hae⟩:∃ a,l[i]?=some a:=⟨l[i],by simp[hin]⟩;obtain⟨a',hae'⟩:∃ a,l'[i]?=some a:=⟨l'[i]'(by rw[Hll.o];exact hin),by simp⟩;obtain⟨x1,x2,x3,x4,x5,xn⟩:=hcell _ hae;obtain⟨y1,y2,y3,y4,y5,yn⟩:=hcell' _ hae';have hee:a'.1=a.1:=by
   have h1:=congrArg (fun z=>z[i]?) He.o;simp only[Zn,hae,hae',Zev,Yc]at h1;exact h1.symm
  obtain⟨e1,u1⟩:=a;obtain⟨e2,u2⟩:=a';simp only at hee x1 x2 x3 x4 x5 xn y1 y2 y3 y4 y5 yn;subst hee;obtain⟨A2,c2,rfl⟩:=xn.shape;obtain⟨B2,c3,rfl⟩:=yn.shape;have Xn:=Y8 xn;have Yn:=Y8 yn;have i0:(0:Int)≤(i:Int):=by omega
  have i1:(i:Int)<(l.length:Int):=by omega
  unfold maxLen at p2 p4;clear hcell hcell' hae hae' xn yn;go_wp2_with fail;go_region;all_goals
   go_wp2_with fail;refine(Zu4 _ _ _ _ _ _ (Xn.o.ext (by first|exact(((Yk _).alloc _).alloc _).drew|exact(((Yk _).drew).alloc _).alloc _)) (Yn.o.ext (by first|exact(((Yk _).alloc _).alloc _).drew|exact(((Yk _).drew).alloc _).alloc _))).mono ?_;rintro e w5 ⟨rfl,hx5⟩;have Hx5:=Y8 (Yg (Yg Hx.o (by first|exact(((Yk _).alloc _).alloc _).drew|exact(((Yk _).drew).alloc _).alloc _)) hx5);clear hx5;go_wp2_with fail;go_roundw;case rel=>exact⟨i+1,by omega,by go_num,Hx5.o⟩
   simp[intOf];omega
 have hd:decide ((i:Int)<(l.length:Int))=false:=by simp;omega
 go_wp2_with fail;go_ret;exact⟨rfl,Hx.o⟩
theorem Qr.chgM{S T:Nat→Prop}{w w':World}{v:Value}{l:List (Ent×Value)}(h:Qr w S v l)(c:Chg T w w')(hd:∀ k,S k→¬ T k):Qr w' S v l :=
 ⟨Rd.chg h.1 c hd,fun p hp=>Rd.chg (h.2 p hp) c hd⟩
theorem Zji{cl cap client op ttl now:Int}{l:List Kp}{ns:List Nm}:(doL cl cap l client op ttl now ns).length≤l.length+16:=by
 unfold doL;split
 ·rename_i h;have hp:Fe cl client op ttl now ns:=Zfp h.1;have hlen:(Qy l ns).length≤16:=by rw[Zod];exact hp.l1
  rw[Zwc];have:=Zwb l (Kk op client (now+ttl) (Qy l ns));have e1:(Kk op client (now+ttl) (Qy l ns)).length=(Qy l ns).length:=by simp[Kk]
  omega
 omega
structure MSt(w wr:World)(B b m:Nat)(cl cp:Int)(v:Value)(ps:List (Ent×Value))(l:List Kp)(k:Nat):Prop where
 mod:U9 wr b m cl cp l
 few:l.length≤16*k
 nz:NZ l
 ents:Qr wr (fun i=>B≤i) v ps
 ext:Ext w wr
 hm:m<B
 hb:b<B
 hw:w.heap.size≤m
 big:B≤wr.heap.size
theorem MSt.ext'{w wr w2:World}{B b m:Nat}{cl cp:Int}{v:Value}{ps:List (Ent×Value)}{l:List Kp}{k:Nat}(h:MSt w wr B b m cl cp v ps l k)(x:Ext wr w2):MSt w w2 B b m cl cp v ps l k :=
 ⟨h.mod.ext x,h.few,h.nz,h.ents.ext x,h.ext.trans x,h.hm,h.hb,h.hw,Zgo h.big x.size⟩
theorem MSt.turn{w wr w2:World}{B b m:Nat}{cl cp client op ttl now:Int}{v:Value}{ps:List (Ent×Value)}{l:List Kp}{k:Nat}{ns:List Nm}(h:MSt w wr B b m cl cp v ps l k)(hm:U9 w2 b m cl cp (doL cl cp l client op ttl now ns))(c:Chg (· = m) wr w2) :
 MSt w w2 B b m cl cp v ps (doL cl cp l client op ttl now ns) (k+1) :=
 ⟨hm,by have:=h.few;have:=Zji (cl:=cl) (cap:=cp) (client:=client) (op:=op) (ttl:=ttl) (now:=now) (l:=l) (ns:=ns);omega,Zuj h.nz,h.ents.chgM c (fun i hi e=>by have:=h.hm;omega),h.ext.chg_new c (fun i hi=>by have:=h.hw;omega),h.hm,h.hb,h.hw,Zgo h.big c.size⟩
theorem Zru(w:World)(a b:Int)(c:ByteArray)(d f:Int)(g:ByteArray)(h t:Int):(Instr.field 53 (.agg #[.int .i64 a,.int .i64 b,.string c,.int .i64 d,.int .i64 f,.string g,.int .i64 h,.int .i64 t]) 0).run prog w=.ok (.int .i64 a) w:=by kernel_rfl
theorem Zph(cl cp:Int)(s:ByteArray)(hs:s.size≤140737488351232)(w:World):Calls prog 37 #[.agg #[.int .i64 cl,.int .i64 cp],.string s] w (Zt8 cl cp s w):=by
 have hx0:Ext w (w.alloc (.cells #[.int .i64 cl,.int .i64 cp] 37)):=(Yk w).alloc _;have Hx0:=Y8 hx0;clear hx0;rcases Zwz cl cp with hc|hc
 ·go_enter func37,ntmps37;go_wp2_with fail;refine(Zmd hc _).mono ?_;rintro x w1 ⟨rfl,hx1⟩;have Hc:=Y8 hc;have Hx1:=Y8 (Hx0.o.trans hx1);clear hc hx1;go_wp2_with fail;((try simp only[Exit.inBlock,Exit.then]);refine Ys (Kh rfl _ _ _) rfl ?_)
  exact⟨Hx1.o,.inl ⟨Hc.o,rfl⟩⟩
 have hcc:1≤cl∧cl≤64∧1≤cp∧cp≤64:=by
  unfold Jx at hc;split at hc
  ·simp at hc
  omega
 obtain⟨hc1,hc2,hc3,hc4⟩:=hcc;go_enter func37,ntmps37;go_wp2_with fail;refine(Zqj hc _).mono ?_;rintro x w2 ⟨b,m,rfl,hm,hb,hmm,hx2⟩;have Hc:=Y8 hc;have Hx2:=Y8 (Hx0.o.trans hx2);have hmw:w.heap.size≤m:=by have:=Hx0.o.size;omega
 have Hm:=Y8 hm;clear hx2 hm hb hmm hc;go_wp2_with fail;refine(Tq s hs _).mono ?_;rintro x w3 ⟨hx3,v,ps,rfl,hps,hents⟩;obtain⟨A,C,rfl⟩:=hents.shape;have hpl:ps.length≤4096:=by
  have h1:=(Tr 4096 s.data.toList).2;have h2:(ps.map Prod.fst).length=(Jv s.data.toList).1.length:=by rw[hps]
  rw[Zq]at h2;unfold Jv at h2;omega
 have hkeys:∀ p∈ps,∀ n∈p.1.names,n.k.size≤maxLen:=fun p hp=>Zpj (s:=s.data.toList) (by rw[← hps];exact List.mem_map_of_mem hp)
 have Hkeys:=Y8 hkeys;have hmst:MSt w w3 w2.heap.size b m cl cp (.slice A ps.length C) ps [] 0:=⟨Hm.o.ext hx3,by simp,by simp[NZ],hents,Hx2.o.trans hx3,Hm.o.map.lt,Hm.o.lt,hmw,hx3.size⟩;obtain⟨B,hB⟩:=gnX (w2.heap.size);rw[hB]at hmst;have Hmst:=Y8 hmst;have Hps:=Y8 hps;clear hB hmst hx3 Hm hps hents hkeys;go_wp2_with fail;go_loopw [34,12] (fun o t wr=>∃ (k:Nat) (l:List Kp) (tk:Int),k≤ps.length∧o=.int .i64 (k:Int)∧t=.int .i64 tk∧MSt w wr B b m cl cp (.slice A ps.length C) ps l k∧(Un cl cp l∧Zk3 l)∧Ue cl cp 0 [] (ps.map Prod.fst)=Ue cl cp tk l ((ps.map Prod.fst).drop k)) (fun o _ _=>ps.length-(intOf o).toNat);case atStart=>exact⟨0,[],0,by omega,rfl,rfl,Hmst.o,⟨Un.start (by omega),fun p hp=>by simp at hp⟩,rfl⟩
 clear Hmst;obtain⟨k,l,tk,hk,rfl,rfl,hst,hbd,hrec⟩:=hrel;have Hbd:=Y8 hbd;have Hst:=Y8 hst;have Hrec:=Y8 hrec;clear hst hbd hrec;by_cases hlt:k<ps.length
 ·have hd:decide ((k:Int)<(ps.length:Int))=true:=by simpa using hlt
  obtain⟨g,o,c',hv,p1,p2,_,b1,hcell⟩:=Hst.o.ents.get (j:=k) hlt;simp only[Yd,Zg0]at hv;obtain⟨rfl,rfl⟩:=hv;obtain⟨⟨e,u⟩,hae⟩:∃ a,ps[k]?=some a:=⟨ps[k],by simp[hlt]⟩;obtain⟨x1,x2,x3,x4,x5,xn⟩:=hcell _ hae;simp only at x1 x2 x3 x4 x5 xn;obtain⟨A2,c2,rfl⟩:=xn.shape;have hek:(ps.map Prod.fst)[k]?=some e:=by rw[Zn,hae];rfl
  have hrec:=Hrec.o;rw[Dz hek]at hrec;replace Hrec:=Y8 hrec;have Hok:=Y8 (Hkeys.o _ (Zy hae));have i0:(0:Int)≤(k:Int):=by omega
  have i1:(k:Int)<(ps.length:Int):=by omega
  obtain⟨nn,hnn⟩:=gnX (e.names.length);rw[hnn]at x5;have hxn:Wo wr (fun i=>B≤i) (.slice A2 nn c2) e.names:=by rw[← hnn];exact xn
  have Hxn:=Y8 hxn;have hfew:=Hst.o.few;clear hcell hae xn hnn hxn hek hrec;go_upto_region 9 with fail;have kc0:(wr.alloc (.cells #[.int .i64 e.cl,.int .i64 e.op,.int .i64 e.ttl,.int .i64 e.tick,.slice A2 nn c2] 83)).cell? ⟨wr.heap.size,0,none⟩=some (.int .i64 e.cl):=by go_simp
  have kc1:(wr.alloc (.cells #[.int .i64 e.cl,.int .i64 e.op,.int .i64 e.ttl,.int .i64 e.tick,.slice A2 nn c2] 83)).cell? ⟨wr.heap.size,1,none⟩=some (.int .i64 e.op):=by go_simp
  have kc2:(wr.alloc (.cells #[.int .i64 e.cl,.int .i64 e.op,.int .i64 e.ttl,.int .i64 e.tick,.slice A2 nn c2] 83)).cell? ⟨wr.heap.size,2,none⟩=some (.int .i64 e.ttl):=by go_simp
  have kc3:(wr.alloc (.cells #[.int .i64 e.cl,.int .i64 e.op,.int .i64 e.ttl,.int .i64 e.tick,.slice A2 nn c2] 83)).cell? ⟨wr.heap.size,3,none⟩=some (.int .i64 e.tick):=by go_simp
  have kc4:(wr.alloc (.cells #[.int .i64 e.cl,.int .i64 e.op,.int .i64 e.ttl,.int .i64 e.tick,.slice A2 nn c2] 83)).cell? ⟨wr.heap.size,4,none⟩=some (.slice A2 nn c2):=by go_simp
  have hxW:Ext wr (wr.alloc (.cells #[.int .i64 e.cl,.int .i64 e.op,.int .i64 e.ttl,.int .i64 e.tick,.slice A2 nn c2] 83)):=(Yk wr).alloc _;obtain⟨cb,hcb⟩:=gnX (wr.heap.size);have hcl:wr.heap.size<(wr.alloc (.cells #[.int .i64 e.cl,.int .i64 e.op,.int .i64 e.ttl,.int .i64 e.tick,.slice A2 nn c2] 83)).heap.size:=by simp
  obtain⟨W1,hW1⟩:=gnX (wr.alloc (.cells #[.int .i64 e.cl,.int .i64 e.op,.int .i64 e.ttl,.int .i64 e.tick,.slice A2 nn c2] 83));rw[hW1]at kc0 kc1 kc2 kc3 kc4 hxW hcl;rw[hW1];rw[hcb]at kc0 kc1 kc2 kc3 kc4 hcl;rw[hcb];have Hst1:=Y8 (Hst.o.ext' hxW);have Hxn1:=Y8 (Rd.ext Hxn.o hxW);have hcw:B≤cb:=by rw[← hcb];exact Hst.o.big
  clear hW1 hcb hxW x1 x2 x3 x4 x5 Hst Hxn b1;by_cases ht:e.tick<tk
  ·have hdt:decide (e.tick<tk)=true:=by simpa using ht
   have Hend:=Y8 (Hrec.o.trans (Fj (.inl ht)));clear ht;go_wp2_with fail;((try simp only[Exit.inBlock,Exit.then]);refine Ys (Kh rfl _ _ _) rfl ?_)
   exact⟨Hst1.o.ext,.inr (.inl ⟨Hc.o,by rw[← Hps.o];exact Hend.o,rfl⟩)⟩
  have hdt:decide (e.tick<tk)=false:=by simpa using ht
  have Ht:=Y8 ht;clear ht;go_wp2_with fail;refine(Zj5 b m cl cp e.cl e.op e.ttl e.tick l (.slice A2 nn c2) e.names _ Hst1.o.mod (by omega) Hok.o (S:=fun i=>B≤i) Hxn1.o (by have:=Hst1.o.hm;omega)).mono ?_;rintro x wd ⟨rfl,hmd,hcd⟩;obtain⟨R,hR⟩:=gnX (doR cl cp l e.cl e.op e.ttl e.tick e.names);have hbd2:=And.intro (Hbd.o.1.turn (client:=e.cl) (op:=e.op) (ttl:=e.ttl) (now:=e.tick) (ns:=e.names) hc2) (Zja (cl:=cl) (cap:=cp) (client:=e.cl) (op:=e.op) (ttl:=e.ttl) (now:=e.tick) Hbd.o.2 Hok.o);have hst3:=Hst1.o.turn hmd hcd;replace kc3:=(hcd.cell (p:=⟨cb,3,none⟩) hcl (by have:=Hst1.o.hm;simp only;omega)).trans kc3;have Hst3:=Y8 hst3;have Hbd2:=Y8 hbd2;clear hmd hcd hst3 hbd2 Hst1 Hxn1 kc0 kc1 kc2 kc4 hcl Hbd;rw[hR];unfold Vw;have hfe:=Zru wd R.e R.at_ R.nm R.rc.st R.rc.ow R.rc.nm R.rc.dl R.tick;by_cases h0:R.e=0
  ·have e1:(R.e==0)=true:=by simp[h0]
   have Hend:=Y8 (Hrec.o.trans (Mv (by have:=Ht.o;omega) (by rw[hR];exact h0)));clear hR h0;go_wp2_with fail;go_roundw;case rel=>exact⟨k+1,_,e.tick,by omega,by go_num,rfl,Hst3.o,Hbd2.o,Hend.o⟩
   simp[intOf];omega
  have e1:(R.e==0)=false:=by simpa using h0
  have Hend:=Y8 (Hrec.o.trans (Fj (.inr (by rw[hR];exact h0))));clear hR h0;go_wp2_with fail;((try simp only[Exit.inBlock,Exit.then]);refine Ys (Kh rfl _ _ _) rfl ?_)
  exact⟨Hst3.o.ext,.inr (.inl ⟨Hc.o,by rw[← Hps.o];exact Hend.o,rfl⟩)⟩
 have hd:decide ((k:Int)<(ps.length:Int))=false:=by simp;omega
 have hend:Ue cl cp 0 [] (Jv s.data.toList).1=some (l,tk):=by
  rw[← Hps.o,Hrec.o,Zf0 (by rw[Zq];omega),Ue]
 have Hend:=Y8 hend;have hcap:=Hbd.o.1.cap;clear hend Hrec;go_wp2_with fail;refine(Zqk b m cl cp l _ Hst.o.mod (by omega)).mono ?_;rintro x w7 ⟨v7,rfl,ho7,hx7⟩;have Hst7:=Y8 (Hst.o.ext' hx7);have Hr7:=Y8 (show Rd w7 (fun k=>w.heap.size≤k) 1 v7 l.length ((Dn l).map encStr) by
  have h:=Rd.of_own ho7 (S:=fun k=>w.heap.size≤k) fun k hk=>Zgo Hst.o.ext.size (ho7.lt k hk).1
  rw[Nk]at h;exact h)
 obtain⟨n7,hn7⟩:=gnX (l.length);rw[hn7]at Hr7 hcap;obtain⟨A7,C7,rfl⟩:=Wv ho7;rw[Nk,hn7]at Hr7;rw[Nk,hn7];have Hn7:=Y8 hn7;clear hx7 Hst ho7 hn7;go_wp2_with fail;go_loopw [65,16] (fun o r wr=>∃ i:Nat,i≤n7∧o=.int .i64 (i:Int)∧wr.ownsRow w7.heap.size 51 4 r i (Kt ((l.take i).map Prod.snd))∧Ext w7 wr) (fun o _ _=>n7-(intOf o).toNat);case atStart=>exact⟨0,by omega,rfl,Zfj _ _ _ _,Yk _⟩
 obtain⟨i,hi,rfl,hown,hx⟩:=hrel;obtain⟨la,lc,rfl⟩:=Wv hown;have Hown:=Y8 hown;have Hx:=Y8 hx;clear hown hx;by_cases hlt2:i<n7
 ·have hdc:decide ((i:Int)<(n7:Int))=true:=by simpa using hlt2
  obtain⟨p,hp⟩:∃ p,l[i]?=some p:=⟨l[i]'(by have:=Hn7.o;omega),by simp⟩;obtain⟨g3,o3,c3,hv,s1,s2,_,s4,hcell⟩:=Rd.at_ (Rd.ext Hr7.o Hx.o) hlt2;simp only[Yd,Zg0]at hv;obtain⟨rfl,rfl⟩:=hv;have y0:=hcell i _ (show((Dn l).map encStr)[i]?=some (.string p.1) by simp[Dn,hp,Zs6,kb]);have u1:=(Hbd.o.1.at hp).1;have hk8:=Hbd.o.2 p (Zy hp);have j0:(0:Int)≤(i:Int):=by omega
  have j1:(i:Int)<(n7:Int):=by omega
  have Hp:=Y8 hp;clear hcell hp;go_wp2_with fail;refine(Zme b m cl cp l p.1 _ (Hst7.o.mod.ext Hx.o) hk8).mono ?_;rintro x w5 ⟨rfl,hx5⟩;rw[u1];unfold rcV;have Hx5:=Y8 (Hx.o.trans hx5);have Hown5:=Y8 (Ek Hown.o hx5);obtain⟨j0',hj,hj0,hj1,hj2⟩:=Zgl J7;have hrl:=Qh w5 #[.int .i64 p.2.st,.int .i64 p.2.ow,.string p.2.nm,.int .i64 p.2.dl] 51 4 (by rfl);have hbz:w7.heap.size≤(w5.alloc (.cells #[.int .i64 p.2.st,.int .i64 p.2.ow,.string p.2.nm,.int .i64 p.2.dl] 51)).heap.size:=by have:=Hx5.o.size;simp;omega
  clear hx5 y0 u1;go_wp2_with (at_builtin;refine Vu _ rfl _ _ 25 rfl w7.heap.size 51 j0' _ 4 40 Av hj hj0 hj1 hj2 rfl (by decide) _ i _ rfl (Hown5.o.alloc _) (fun _=>True) _ 1 _ rfl hrl (by simp[Value.oneCell']) (by unfold maxLen;omega) (by omega) hbz ?_;intro v' w6 ha;obtain⟨a3,c3',hv3⟩:=Wv ha.own;subst hv3);have hend:w6.ownsRow w7.heap.size 51 4 (.slice a3 (i+1) c3') (i+1) (Kt ((l.take (i+1)).map Prod.snd)):=by
   rw[take_at Hp.o,Yy,Zg4,Zfv,Fu];exact ha.own
  have hx6:Ext w7 w6:=(Hx5.o.alloc _).grown ha.grown fun k hk=>(Hown5.o.lt k hk).1
  have Hend2:=Y8 hend;have Hx6:=Y8 hx6;clear ha hend hx6 hrl hbz;go_roundw;case rel=>exact⟨i+1,by omega,by go_num,Hend2.o,Hx6.o⟩
  simp[intOf];omega
 have hdc:decide ((i:Int)<(n7:Int))=false:=by simp;omega
 obtain rfl:n7=i:=by omega
 have hown:=Hown.o;rw[Zm (by rw[Hn7.o];exact Ym _)]at hown;have Hown2:=Y8 (Rd.of_own hown (S:=fun k=>w.heap.size≤k) fun k hk=>Zgo Hst7.o.ext.size (hown.lt k hk).1);clear hown;go_wp2_with fail;((try simp only[Exit.inBlock,Exit.then]);refine Ys (Kh rfl _ _ _) rfl ?_)
 refine⟨Hst7.o.ext.trans Hx.o,.inr (.inr ⟨Hc.o,l,tk,_,_,Hend.o,rfl,?_,?_⟩)⟩
 ·rw[Hn7.o];exact Rd.ext Hr7.o Hx.o
 rw[Hn7.o];exact Hown2.o
theorem Zxu{S:Nat→Prop}(e:Ent)(v:Value)(w:World)(hn:Wo w S v e.names) :
 Calls prog 36 #[Gn e v] w fun x w'=>x=.returned (.int .i64 (Vn e))∧Ext w w':=by
 obtain⟨A,c,rfl⟩:=hn.shape;have hlm:=hn.len;unfold maxLen at hlm;cases hr:Qn e with
 | false =>
  have Hck:=Y8 (show Vn e=3 by unfold Vn;rw[hr];rfl);have Hr:=Y8 hr;obtain⟨cl,op,ttl,tick,names⟩:=e;simp only at hn hlm;clear hn hr;unfold Gn;go_enter func36,ntmps36;rcases(show op=1∨op=3∨(op≠1∧op≠3∧ttl=0)∨(op≠1∧op≠3∧ttl≠0) by omega)with rfl|rfl | ⟨h1,h3,rfl⟩ | ⟨h1,h3,h0⟩;all_goals
   go_wp2_with fail;all_goals first
    | (go_ret;exact⟨by rw[Hck.o];rfl,xE⟩)
    | (exfalso;have hf:=Hr.o;simp_all [Qn,Xh];done)
    | (exfalso;have hf:=Hr.o;simp_all [Qn,Xh];omega)
 | true =>
  obtain⟨a1,a2,a3,a4,_,a6,a7,a8,a9⟩:=Uf hr;have htm:=Ei hr;have Hck:=Y8 (show Vn e=if srt e.names then(if e.names.all Jt then 0 else 1)else 1 by unfold Vn;rw[hr];cases srt e.names<;>simp);have Hn:=Y8 hn;obtain⟨cl,op,ttl,tick,names⟩:=e;simp only at a1 a2 a3 a4 a6 a7 a8 a9 htm Hn Hck hlm;have c8:(1:Int)≤(names.length:Int):=by omega
  have c9:(names.length:Int)≤16:=by omega
  have Hx0:=Y8 ((Yk w).alloc (.cells #[.int .i64 cl,.int .i64 op,.int .i64 ttl,.int .i64 tick,.slice A names.length c] 83));have k4:(w.alloc (.cells #[.int .i64 cl,.int .i64 op,.int .i64 ttl,.int .i64 tick,.slice A names.length c] 83)).cell? ⟨w.heap.size,4,none⟩=some (.slice A names.length c):=by go_simp
  have kl:w.heap.size<(w.alloc (.cells #[.int .i64 cl,.int .i64 op,.int .i64 ttl,.int .i64 tick,.slice A names.length c] 83)).heap.size:=by simp
  have Hk4:=Y8 k4;unfold Gn;clear hn hr k4;go_enter func36,ntmps36;rcases htm with⟨rfl,b1,b2⟩ | ⟨rfl,b1,b2⟩ | ⟨b1,b2,rfl⟩;all_goals
   go_wp2_with fail;refine(Zxp _ _ _ (Hn.o.ext Hx0.o)).mono ?_;rintro x w2 ⟨rfl,hx2⟩;have k4:=(hx2.cell (p:=⟨w.heap.size,4,none⟩) kl).trans Hk4.o;have Hx2:=Y8 (Hx0.o.trans hx2);cases hs:srt names with
   | false =>
    have Hs:=Y8 hs;clear hs hx2;go_wp2_with fail;go_ret;exact⟨by rw[Hck.o,Hs.o];rfl,Hx2.o⟩
   | true =>
    have Hs:=Y8 hs;have hb:w.heap.size<w2.heap.size:=Zgp kl hx2.size;clear hs hx2 Hx0 Hk4;go_wp2_with fail;go_loopw [83] (fun o wr=>∃ i:Nat,i≤names.length∧o=.int .i64 (i:Int)∧(∀ j n,j<i→names[j]?=some n→Jt n=true)∧Ext w wr) (fun o _=>names.length-(intOf o).toNat);case atStart=>exact⟨0,by omega,rfl,fun j n h=>by omega,Hx2.o⟩
    obtain⟨i,hil,rfl,hall,hx⟩:=hrel;have Hall:=Y8 hall;have Hx:=Y8 hx;clear hall hx;by_cases hlt:i<names.length
    ·have hd:decide ((i:Int)<(names.length:Int))=true:=by simpa using hlt
     obtain⟨g,o,c',hv,hc1,hc2,_,hg,hcell⟩:=(Hn.o.ext Hx.o).get (j:=i) hlt;simp only[Yd,Zg0]at hv;obtain⟨rfl,rfl⟩:=hv;obtain⟨n,hnm⟩:∃ n,names[i]?=some n:=⟨names[i],by simp[hlt]⟩;obtain⟨c0,c1,c2⟩:=hcell _ _ hnm;have q0:(0:Int)≤(i:Int):=by omega
     have q1:(i:Int)<(names.length:Int):=by omega
     have q5:c≤9223372036854775807:=by unfold maxLen at hc2;omega
     have Hnm:=Y8 hnm;clear hcell hnm;cases hb:Jt n with
     | true =>
      have hw1:1≤n.a.size∧n.a.size≤63:=by simpa[Jt]using hb
      obtain⟨hw1,hw2⟩:=hw1;have hw3:(1:Int)≤(n.a.size:Int):=by omega
      have hw4:(n.a.size:Int)≤63:=by omega
      have Hb:=Y8 hb;clear hb;go_wp2_with fail;go_roundw;case rel =>
       refine⟨i+1,by omega,by go_num,fun j m hj hm=>?_,Hx.o.alloc _⟩;by_cases hji:j=i
       ·subst hji;rw[Hnm.o]at hm;simp only[Yc]at hm;subst hm;exact Hb.o
       exact Hall.o j m (by omega) hm
      case measure=>simp[intOf];omega
     | false =>
      have hw1:n.a.size<1∨63<n.a.size:=by simp[Jt]at hb;omega
      have Hno:=Y8 (show names.all Jt=false by
       rw[← Zd1,Zfl];intro h;have:=h n (Zy Hnm.o);rw[hb]at this;simp at this)
      clear hb;go_wp2_with fail;all_goals first
       | (go_ret;exact⟨by rw[Hck.o,Hs.o,Hno.o];rfl,Hx.o.alloc _⟩)
       | (exfalso;omega)
    have hd:decide ((i:Int)<(names.length:Int))=false:=by simp;omega
    have Hyes:=Y8 (show names.all Jt=true from Zfl.2 fun n hn=>by
     obtain⟨j,hj⟩:=Zgd hn;exact Hall.o j n (by have:=(Zr.1 hj).1;omega) hj)
    go_wp2_with fail;go_ret;exact⟨by rw[Hck.o,Hs.o,Hyes.o];rfl,Hx.o⟩
theorem Zln(va vb:Value)(n:Nat)(l:List (List UInt8))(S T:Nat→Prop)(w:World)(ha:Rd w S 1 va n (l.map encStr))(hb:Rd w T 1 vb n (l.map encStr)) :
 Calls prog 39 #[va,vb] w fun e w'=>e=.returned (.bool true)∧Ext w w':=by
 have hln:l.length=n:=by have:=ha.1;simpa using this
 have Ha:=Y8 ha;have Hb:=Y8 hb;have Hln:=Y8 hln;obtain⟨_,A,ca,rfl,ha1,ha2,_⟩:=ha;obtain⟨_,B,cb,rfl,hb1,hb2,_⟩:=hb;unfold maxLen at ha2 hb2;clear hln;go_enter func39,ntmps39;go_wp2_with fail;go_loopw [13] (fun o wr=>∃ i:Nat,i≤n∧o=.int .i64 (i:Int)∧Ext w wr) (fun o _=>n-(intOf o).toNat);case atStart=>exact⟨0,by omega,rfl,Yk _⟩
 obtain⟨i,hi,rfl,hx⟩:=hrel;by_cases hin:i<n
 ·have hd:decide ((i:Int)<(n:Int))=true:=by simpa using hin
  obtain⟨ga,oa,c1,e1,_,_,_,_,hc1⟩:=(Ha.o.ext hx).at_ hin;obtain⟨gb,ob,c2,e2,_,_,_,_,hc2⟩:=(Hb.o.ext hx).at_ hin;simp only[Yd,Zg0]at e1 e2;obtain⟨rfl,rfl⟩:=e1;obtain⟨rfl,rfl⟩:=e2;obtain⟨x,hxx⟩:∃ x,l[i]?=some x:=⟨l[i]'(by have:=Hln.o;omega),by simp⟩;have d1:wr.cell? ⟨ga,oa+i,none⟩=some (.string ⟨⟨x⟩⟩):=hc1 i _ (by rw[Zn,hxx];rfl);have d2:wr.cell? ⟨gb,ob+i,none⟩=some (.string ⟨⟨x⟩⟩):=hc2 i _ (by rw[Zn,hxx];rfl);have i0:(0:Int)≤(i:Int):=by omega
  have i1:(i:Int)<(n:Int):=by omega
  have Hx:=Y8 hx;clear hc1 hc2 hx hxx;go_wp2_with fail;go_quiet (fail);go_wp2_with fail;go_roundw;case rel=>exact⟨i+1,by omega,by go_num,Hx.o.drewN _⟩
  simp[intOf];omega
 have hd:decide ((i:Int)<(n:Int))=false:=by simp;omega
 go_wp2_with fail;go_ret;exact⟨rfl,hx⟩
def Zvt(l:List Ent):Prop:=∀ e∈l,(Kv e).1=0
theorem Rx{e:Ent}(h:(Kv e).1=0):(Kv e).2.length≤4200:=Zyt (x:=(Kv e).2) (Zbz h rfl)
theorem Mh:∀ {l:List Ent},Zvt l→(Wj l).length≤4200*l.length
 | [],_=>by simp[Wj]
 | e::l,h=>by
  have h1:=Rx (h e (by simp));have h2:=Mh (l:=l) fun x hx=>h x (by simp[hx])
  rw[Wj,Zs,Zl];omega
theorem Ok{l:List Ent}(h:Zvt l)(hl:l.length≤4096):Jv (Wj l)=(l,(Wj l).length):=by
 have:=Eh l 4096 [] hl h;rw[Fk Dj]at this;unfold Jv;simpa using this
theorem Zsn{l:List Ent}{e:Ent}(h:Zvt l)(hl:l.length≤5)(he:(Kv e).1=0):appJ (Wj l) e=(0,Wj (l++[e])):=by
 have h1:=Ok h (by omega);have h2:=Mh h;have h3:=Rx he;rw[Zsm he (by rw[h1];simp only;omega),h1];simp[Uk,Wj]
theorem Le{v:Int}(h:I64 v):(code v).length≤10:=by unfold I64 at h;exact Vj h.1 h.2
theorem Zmu{s:List UInt8}(h:s.length≤9223372036854775807):(item s).length≤s.length+10:=by
 have:=Vj (v:=(s.length:Int)) (by omega) (by omega);rw[item,Zs];omega
theorem Zmw{e:Ent}(h1:I64 e.cl)(h2:I64 e.op)(h3:I64 e.ttl)(h4:I64 e.tick)(h5:e.names.length≤9223372036854775807):(Wf e).length≤50:=by
 have:=Le h1;have:=Le h2;have:=Le h3;have:=Le h4;have:=Vj (v:=(e.names.length:Int)) (by omega) (by omega);unfold Wf;simp only[Zs];omega
def awN:Nm:=⟨⟨#[97]⟩,⟨#[97]⟩,⟨#[97]⟩⟩
def awE:Ent:=⟨0,1,5,0,[awN]⟩
theorem Zsj:Vn awE=0:=by decide
theorem Zx6:(Vx awE).length≤190:=by
 have h:=Zmw (e:=awE) (by unfold I64 awE;simp) (by unfold I64 awE;simp) (by unfold I64 awE;simp) (by unfold I64 awE;simp) (by simp[awE]);have k1:=Zmu (s:=awN.a.data.toList) (by simp[awN]);have g1:awN.a.data.toList.length=1:=rfl;have e1:Xo awE.names=item awN.a.data.toList++item awN.a.data.toList++item awN.a.data.toList:=by simp[awE,awN,Xo,Vs]
 rw[Vx,Zs,e1];simp only[Zs];omega
theorem Zx7:(Kv awE).1=0:=by rw[Zs7 Zsj (by have:=Zx6;omega)]
theorem Zjq:appJ [] awE=(0,Wj [awE]):=Zsn (l:=[]) (by simp[Zvt]) (by simp) Zx7
theorem Znf:Jv (Wj [awE])=([awE],(Wj [awE]).length):=Ok (by simp[Zvt,Zx7]) (by simp)
theorem Zjo:0<(Wj [awE]).length:=by
 obtain⟨_,h,_⟩:=Dy (e:=awE) (x:=(Kv awE).2) (Zbz Zx7 rfl);have:=Zvw (Vx awE);simp only[Wj,Zf4,h];exact this
theorem Zjp:(Wj [awE]).length≤4200:=by
 have:=Mh (l:=[awE]) (by simp[Zvt,Zx7]);simpa using this
theorem Zqc(w:World):Wo (w.alloc (.cells #[.string ⟨#[97]⟩,.string ⟨#[97]⟩,.string ⟨#[97]⟩] 109)) (fun _=>True) (.slice (some ⟨w.heap.size,0,none⟩) 1 1) awE.names:=by
 have e1:Wh awE.names=[.string ⟨#[97]⟩,.string ⟨#[97]⟩,.string ⟨#[97]⟩]:=rfl;have e2:awE.names.length=1:=rfl;unfold Wo;rw[e1,e2];exact Zpl w _ _ _
theorem Zn5{w:World}{v:Value}(h:Wo (w.alloc (.cells #[.int .i64 0,.int .i64 1,.int .i64 5,.int .i64 0,v] 83)) (fun _=>True) v awE.names) :
 Qr (w.alloc (.cells #[.int .i64 0,.int .i64 1,.int .i64 5,.int .i64 0,v] 83)) (fun _=>True) (.slice (some ⟨w.heap.size,0,none⟩) 1 1) [(awE,v)]:=by
 have e1:Wg [(awE,v)]=[.int .i64 0,.int .i64 1,.int .i64 5,.int .i64 0,v]:=by simp[Wg,V8,awE]
 have e2:[(awE,v)].length=1:=rfl;refine⟨?_,fun p hp=>?_⟩
 ·rw[e1,e2];exact Zpn w 0 1 5 0 v
 rw[Zi.1 hp];exact h
theorem Zsi(w:World):Calls prog 13 #[] w fun e w'=>e=.returned (.bool true)∧Ext w w':=by
 obtain⟨L,hL⟩:=gnX (Wj [awE]);have hap:=Zjq;have hrd:=Znf;have hpos:=Zjo;have hlen:=Zjp;rw[hL]at hap hrd hpos hlen;obtain⟨jb,hjb⟩:=gnX (bs L);have hjs:jb.size=L.length:=by rw[← hjb,Js]
 have hjd:jb.data.toList=L:=by rw[← hjb];rfl
 have Hap:=Y8 hap;have Hrd:=Y8 hrd;have Hjb:=Y8 hjb;have Hjs:=Y8 hjs;have Hjd:=Y8 hjd;clear hap hrd hjb hjs hjd hL;go_enter func13,ntmps13;go_wp2_with fail;refine(P0 (S:=fun _=>True) ⟨#[]⟩ awE _ (by decide) _ (Wo.ext (Zqc w) ((Yk _).alloc _)) (by have:=Zx6;omega)).mono ?_;rintro x w1 ⟨rfl,hx1⟩;rw[show(⟨#[]⟩:ByteArray).data.toList=[] from rfl,Hap.o];simp only;rw[Hjb.o];have Hnm1:=Y8 (Wo.ext (Zqc w) (Yg ((Yk _).alloc _) hx1));have Hx1:=Y8 (Yg (((Yk w).alloc (.cells #[.string ⟨#[97]⟩,.string ⟨#[97]⟩,.string ⟨#[97]⟩] 109)).alloc _) hx1);have hc0:w1.cell? ⟨w.heap.size+1,0,none⟩=some (.int .i64 0):=(hx1.cell (by simp)).trans (by go_simp);have hc1:w1.cell? ⟨w.heap.size+1,1,none⟩=some (.int .i64 1):=(hx1.cell (by simp)).trans (by go_simp);have hc2:w1.cell? ⟨w.heap.size+1,2,none⟩=some (.int .i64 5):=(hx1.cell (by simp)).trans (by go_simp);have hc3:w1.cell? ⟨w.heap.size+1,3,none⟩=some (.int .i64 0):=(hx1.cell (by simp)).trans (by go_simp);have hc4:w1.cell? ⟨w.heap.size+1,4,none⟩=some (.slice (some ⟨w.heap.size,0,none⟩) 1 1):=(hx1.cell (by simp)).trans (by go_simp);have hw1:w.heap.size+1<w1.heap.size:=by have:=hx1.size;simp at this;omega
 clear hx1;go_wp2_with fail;refine(Tq jb (by have:=Hjs.o;omega) _).mono ?_;rintro x w2 ⟨hx2,v,ps,rfl,hps,hents⟩;rw[Hjd.o,Hrd.o]at hps;rw[Hjd.o,Hrd.o];obtain⟨A,C,rfl⟩:=hents.shape;simp only at hps;have hpl:ps.length=1:=by have:=congrArg List.length hps;simpa using this
 have d0:=(hx2.cell (p:=⟨w.heap.size+1,0,none⟩) hw1).trans hc0;have d1:=(hx2.cell (p:=⟨w.heap.size+1,1,none⟩) hw1).trans hc1;have d2:=(hx2.cell (p:=⟨w.heap.size+1,2,none⟩) hw1).trans hc2;have d3:=(hx2.cell (p:=⟨w.heap.size+1,3,none⟩) hw1).trans hc3;have d4:=(hx2.cell (p:=⟨w.heap.size+1,4,none⟩) hw1).trans hc4;have Hents:=Y8 hents;have Hps:=Y8 hps;have Hnm2:=Y8 (Wo.ext (Hnm1.o.ext hx2) ((Yk _).alloc (.cells #[.int .i64 0,.int .i64 1,.int .i64 5,.int .i64 0,.slice (some ⟨w.heap.size,0,none⟩) 1 1] 83)));have Hx2:=Y8 (Hx1.o.trans hx2);have hjs:=Hjs.o;have hpos':(0:Int)<(L.length:Int):=by omega
 have Hr:=Y8 (Zn5 Hnm2.o);clear hx2 hents hps hc0 hc1 hc2 hc3 hc4 Hnm1 Hx1;simp only;go_wp2_with fail;have he:ps.map Prod.fst=[(awE,Value.slice (some ⟨w.heap.size,0,none⟩) 1 1)].map Prod.fst:=by rw[Hps.o,Zg4,Zfv]
 have hq:=Hents.o.ext ((Yk _).alloc (.cells #[.int .i64 0,.int .i64 1,.int .i64 5,.int .i64 0,.slice (some ⟨w.heap.size,0,none⟩) 1 1] 83));have hcall:=Zpd _ _ ps _ he _ _ _ hq Hr.o;clear hq;rw[hpl]at hcall
 with_reducible refine hcall.mono ?_
 rintro x w3 ⟨rfl,hx3⟩;have Hx3:=Y8 (Yg (Hx2.o.alloc _) hx3);clear hx3;go_wp2_with fail;go_ret;exact⟨rfl,Hx3.o⟩
