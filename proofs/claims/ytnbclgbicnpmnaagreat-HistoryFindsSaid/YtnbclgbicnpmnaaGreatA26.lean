/- Lemmas of this claim: Enc2, DoLaw, Sr, Dc, Mk, Start. Conditions: as named. -/
import Derived.Test.YtnbclgbicnpmnaaGreatA15
import Derived.Test.YtnbclgbicnpmnaaGreatA22
import Derived.Test.YtnbclgbicnpmnaaGreatA25
namespace Go.Proofs.YtnbclgbicnpmnaaGreat
open Go.RowKit Go.Sort Tryz
set_option maxHeartbeats 0
set_option maxRecDepth 100000
set_option linter.all false
theorem Uh:(prog.info? 99).map (fun i=>(i.zero,i.size,i.bytes))=some (some (.agg #[.int .i64 0,.int .i64 0,.int .i64 0]),3,24):=by kernel_rfl
theorem Zrg:prog.underlying 31=some (.slice 99):=by kernel_rfl
theorem Zlx(l:List Sp):∀ u∈Vs l,u.oneCell'=true:=by
 induction l with
 | nil=>simp[Vs]
 | cons n r ih =>
  intro u hu;rw[Vs,Zj]at hu;rcases hu with hu|hu
  ·simp only[Nz,Zg,Zh,Zin]at hu;rcases hu with rfl|rfl|rfl<;>rfl
  exact ih u hu
noncomputable def spE:Enc Sp where
 ty:=99
 sl:=31
 z:=3
 bytes:=24
 cells l:=Vs l
 app a b:=Gz a b
 len l:=Fx l
 one l:=Zlx l
 und:=Zrg
 i:=Classical.choose (Zju Uh)
 zero:=.agg #[.int .i64 0,.int .i64 0,.int .i64 0]
 info:=(Yo (Zju Uh)).1
 hz:=(Yo (Zju Uh)).2.1
 hs:=(Yo (Zju Uh)).2.2.1
 hb:=(Yo (Zju Uh)).2.2.2
 hc:=rfl
 pos:=by omega
theorem Ui:(prog.info? 106).map (fun i=>(i.zero,i.size,i.bytes))=some (some (.agg #[.int .i64 0,.slice none 0 0]),2,32):=by kernel_rfl
theorem Zrh:prog.underlying 32=some (.slice 106):=by kernel_rfl
abbrev MpS:={m:Mp // m.tv.oneCell'=true}
def Zli(l:List MpS):List Value:=Vt (l.map Subtype.val)
theorem Zpo(l:List MpS):∀ u∈Zli l,u.oneCell'=true:=by
 induction l with
 | nil=>simp[Zli,Vt]
 | cons o r ih =>
  intro u hu;obtain⟨o,ho⟩:=o;simp only[Zli,Zj0,Vt,Zj]at hu;rcases hu with hu|hu
  ·simp only[Mx,Zg,Zh,Zin]at hu;rcases hu with rfl|rfl
   ·rfl
   exact ho
  exact ih u hu
noncomputable def mpE:Enc MpS where
 ty:=106
 sl:=32
 z:=2
 bytes:=32
 cells l:=Zli l
 app a b:=by simp[Zli,Ue]
 len l:=by simp[Zli,Ah]
 one l:=Zpo l
 und:=Zrh
 i:=Classical.choose (Zju Ui)
 zero:=.agg #[.int .i64 0,.slice none 0 0]
 info:=(Yo (Zju Ui)).1
 hz:=(Yo (Zju Ui)).2.1
 hs:=(Yo (Zju Ui)).2.2.1
 hb:=(Yo (Zju Ui)).2.2.2
 hc:=rfl
 pos:=by omega
theorem Lk:(prog.info? 109).map (fun i=>(i.zero,i.size,i.bytes))=some (some (.agg #[.string ⟨#[]⟩,.string ⟨#[]⟩,.string ⟨#[]⟩]),3,48):=by kernel_rfl
theorem Zlo:prog.underlying 49=some (.slice 109):=by kernel_rfl
noncomputable def nmE:Enc Nm where
 ty:=109
 sl:=49
 z:=3
 bytes:=48
 cells l:=Wm l
 app a b:=Ud a b
 len l:=Ag l
 one l:=Tg l
 und:=Zlo
 i:=Classical.choose (Zju Lk)
 zero:=.agg #[.string ⟨#[]⟩,.string ⟨#[]⟩,.string ⟨#[]⟩]
 info:=(Yo (Zju Lk)).1
 hz:=(Yo (Zju Lk)).2.1
 hs:=(Yo (Zju Lk)).2.2.1
 hb:=(Yo (Zju Lk)).2.2.2
 hc:=rfl
 pos:=by omega
structure Zyu where
 kind:Int
 cl:Int
 n:Int
 text:ByteArray
def Zl3(a:Zyu):List Value:=[.int .i64 a.kind,.int .i64 a.cl,.int .i64 a.n,.string a.text]
def Kb:List Zyu→List Value
 | []=>[]
 | s::r=>Zl3 s++Kb r
theorem Sv:∀ l:List Zyu,(Kb l).length=l.length*4
 | []=>rfl
 | n::r=>by rw[Kb,Zs,Sv r];simp[Zl3];omega
theorem Av:∀ a b:List Zyu,Kb (a++b)=Kb a++Kb b
 | [],_=>rfl
 | n::r,b=>by simp[Kb,Av r b]
theorem Zyp:∀ {l:List Zyu} {j:Nat} {s:Zyu},l[j]?=some s→(Kb l)[j*4]?=some (.int .i64 s.kind)∧(Kb l)[j*4+1]?=some (.int .i64 s.cl)∧(Kb l)[j*4+2]?=some (.int .i64 s.n)∧(Kb l)[j*4+3]?=some (.string s.text)
 | m::r,0,n,h=>by
  simp only[Zx,Yd]at h;subst h;simp[Kb,Zl3]
 | m::r,j+1,n,h=>by
  obtain⟨h1,h2,h3,h4⟩:=Zyp (l:=r) (j:=j) (s:=n) (by simpa using h);have hm:(Zl3 m).length=4:=rfl;have e:∀ k,(Kb (m::r))[(j+1)*4+k]?=(Kb r)[j*4+k]?:=fun k=>by
   rw[Kb,Zd (by omega),hm];congr 1;omega
  refine⟨?_,?_,?_,?_⟩
  ·have:=e 0;simp only[Zix]at this;rw[this,h1]
  ·rw[e 1,h2]
  ·rw[e 2,h3]
  rw[e 3,h4]
theorem Zql(l:List Zyu):∀ u∈Kb l,u.oneCell'=true:=by
 induction l with
 | nil=>simp[Kb]
 | cons n r ih =>
  intro u hu;rw[Kb,Zj]at hu;rcases hu with hu|hu
  ·simp only[Zl3,Zg,Zh,Zin]at hu;rcases hu with rfl|rfl|rfl|rfl<;>rfl
  exact ih u hu
theorem Ew:(prog.info? 78).map (fun i=>(i.zero,i.size,i.bytes))=some (some (.agg #[.int .i64 0,.int .i64 0,.int .i64 0,.string ⟨#[]⟩]),4,40):=by kernel_rfl
theorem Zou:prog.underlying 39=some (.slice 78):=by kernel_rfl
noncomputable def Zx2:Enc Zyu where
 ty:=78
 sl:=39
 z:=4
 bytes:=40
 cells l:=Kb l
 app a b:=Av a b
 len l:=Sv l
 one l:=Zql l
 und:=Zou
 i:=Classical.choose (Zju Ew)
 zero:=.agg #[.int .i64 0,.int .i64 0,.int .i64 0,.string ⟨#[]⟩]
 info:=(Yo (Zju Ew)).1
 hz:=(Yo (Zju Ew)).2.1
 hs:=(Yo (Zju Ew)).2.2.1
 hb:=(Yo (Zju Ew)).2.2.2
 hc:=rfl
 pos:=by omega
def NZ(l:List Kp):Prop:=∀ p∈l,p.2.st≠0
theorem Zoa{l:List Kp}(h:NZ l)(k:ByteArray)(r:Rc):NZ (Jt l k r):=by
 intro p hp;rcases Vf.1 hp with⟨hp,_⟩ | ⟨hd,hp⟩
 ·exact h p hp
 subst hp;simpa using hd
theorem Dp(k:ByteArray):∀ l:List Kp,(Xg l k=default∧¬ ∃ p∈l,p.1=k)∨∃ p∈l,p.1=k∧Xg l k=p.2
 | []=>.inl ⟨rfl,by simp⟩
 | p::l=>by
  rw[Xg];by_cases h:p.1=k
  ·exact .inr ⟨p,by simp,h,Zjx h⟩
  rw[Zk9 h];rcases Dp k l with⟨h1,h2⟩ | ⟨q,h1,h2,h3⟩
  ·exact .inl ⟨h1,by rintro⟨q,hq,e⟩;rcases Zg.1 hq with rfl|hq;exact h e;exact h2 ⟨q,hq,e⟩⟩
  exact .inr ⟨q,by simp[h1],h2,h3⟩
theorem Zq2{l:List Kp}(h:NZ l){k:ByteArray}(hs:(Xg l k).st=0):Xg l k=default:=by
 rcases Dp k l with⟨h1,_⟩ | ⟨p,h1,_,h3⟩
 ·exact h1
 rw[h3]at hs;exact absurd hs (h p h1)
theorem Zmx{l:List Kp}(h:NZ l){k:ByteArray}:(Xg l k).st=0↔¬ ∃ p∈l,p.1=k:=by
 rcases Dp k l with⟨h1,h2⟩ | ⟨p,h1,h2,h3⟩
 ·exact⟨fun _=>h2,fun _=>by rw[h1];rfl⟩
 exact⟨fun hs=>by rw[h3]at hs;exact absurd hs (h p h1),fun hn=>absurd ⟨p,h1,h2⟩ hn⟩
theorem Jy(l:List Kp)(k:ByteArray)(r:Rc):Xg (Jt l k r) k=if r.st=0 then default else r:=by
 unfold Jt;rw[Qo];simp
theorem Wg(l:List Kp){k k':ByteArray}(h:k'≠k)(r:Rc):Xg (Jt l k r) k'=Xg l k':=Vg h
abbrev PW(ps:List (Nm×Rc)):Prop:=ps.Pairwise (fun a b=>a.1.k≠b.1.k)
theorem K7(op client dl:Int)(l:List Kp)(p:Nm×Rc)(ps:List (Nm×Rc)):Qn op client dl l (p::ps)=Qn op client dl (Jt l p.1.k (Vr op client dl p.1 p.2)) ps:=rfl
theorem Q6{op client dl:Int}{k:ByteArray}:∀ {ps:List (Nm×Rc)} {l:List Kp},(∀ p∈ps,p.1.k≠k)→Xg (Qn op client dl l ps) k=Xg l k
 | [],_,_=>rfl
 | p::ps,l,h=>by
  rw[K7,Q6 (fun q hq=>h q (by simp[hq])),Wg _ (fun e=>h p (by simp) e.symm)]
theorem Uk{op client dl:Int}:∀ {ps:List (Nm×Rc)} {l:List Kp},PW ps→∀ p∈ps,Xg (Qn op client dl l ps) p.1.k=if(Vr op client dl p.1 p.2).st=0 then default else Vr op client dl p.1 p.2
 | [],_,_,p,hp=>by simp at hp
 | q::ps,l,h,p,hp=>by
  obtain⟨h1,h2⟩:=Zj5.1 h;rw[K7];rcases Zg.1 hp with rfl|hp
  ·rw[Q6 (fun x hx=>fun e=>h1 x hx e.symm),Jy]
  exact Uk h2 p hp
theorem Zxr:∀ {l:List Nm},srt l=true→l.Pairwise (fun a b=>Jk a<Jk b)
 | [],_=>List.Pairwise.nil
 | [x],_=>by simp
 | x::y::r,h=>by
  rw[srt,Zjg,Zjm]at h;have ih:=Zxr h.2;refine Zj5.2 ⟨fun z hz=>?_,ih⟩;rcases Zg.1 hz with rfl|hz
  ·exact h.1
  exact Zh7 h.1 ((Zj5.1 ih).1 z hz)
theorem Zoo{l:List Kp}{ns:List Nm}(h:srt ns=true):PW (Vy l ns):=by
 unfold Vy PW;rw[List.pairwise_map];exact(Zxr h).imp fun hab e=>by unfold Jk at hab;rw[e]at hab;exact Zhz _ hab
theorem O5{cap op client now:Int}:∀ {ps:List (Nm×Rc)} {i:Nat} {c:Int},Vk cap op client now i c ps=none→∀ p∈ps,V8 p.2.st p.2.ow p.2.dl op client now=0
 | [],_,_,_,p,hp=>by simp at hp
 | q::ps,i,c,h,p,hp=>by
  rw[Vk]at h;split at h
  ·rename_i h0;rcases Zg.1 hp with rfl|hp
   ·unfold Zv0 at h0;split at h0
    ·simp at h0
    exact h0
   exact O5 h p hp
  simp at h
theorem Zq9{cap op client ttl now count:Int}{ps:List (Nm×Rc)}(h:(Wq cap op client ttl now count ps).e=0):Vk cap op client now 0 count ps=none:=by
 unfold Wq at h;split at h
 ·simp at h
 cases hj:Vk cap op client now 0 count ps with
 | none=>rfl
 | some x =>
  obtain⟨e,i,n⟩:=x;rw[hj]at h;simp only at h;exfalso;have:∀ {ps:List (Nm×Rc)} {i:Nat} {c:Int} {e j n},Vk cap op client now i c ps=some (e,j,n)→e≠0:=by
   intro ps
   induction ps with
   | nil=>intro i c e j n h;simp[Vk]at h
   | cons p ps ih =>
    intro i c e j n h;rw[Vk]at h;split at h
    ·exact ih h
    rename_i h0;simp only[Yd,Zg5]at h;rw[← h.1];exact h0
  exact this hj h
theorem Zl7{cl cap client op ttl now:Int}{l:List Kp}{ns:List Nm}(h:(doR cl cap l client op ttl now ns).e≠0):doL cl cap l client op ttl now ns=l:=by
 unfold doL;rw[Zk9];rintro⟨hp,h0⟩;unfold doR at h;rw[Zjx hp]at h;exact h h0
theorem Zky{cl cap client op ttl now:Int}{l:List Kp}{ns:List Nm}(hz:NZ l):NZ (doL cl cap l client op ttl now ns):=by
 unfold doL;split
 ·have:∀ (ps:List (Nm×Rc)) (l:List Kp),NZ l→NZ (Qn op client (now+ttl) l ps):=by
   intro ps
   induction ps with
   | nil=>intro l h;exact h
   | cons p ps ih=>intro l h;rw[K7];exact ih _ (Zoa h _ _)
  exact this _ _ hz
 exact hz
def Pm(op:Int)(rs:List Rc):Int:=rs.foldl (fun c r=>c+Xn r.st op) 0
theorem Nu(op:Int):∀ (rs:List Rc) (c:Int),rs.foldl (fun c r=>c+Xn r.st op) c=c+Pm op rs
 | [],c=>by simp[Pm]
 | r::rs,c=>by
  unfold Pm;rw[Zgy,Zgy,Nu op rs,Nu op rs];omega
theorem Zrq(op:Int)(rs:List Rc)(r:Rc):Pm op (rs++[r])=Pm op rs+Xn r.st op:=by
 unfold Pm;rw[Zif];rfl
theorem Io(op:Int)(rs:List Rc)(r:Rc):Pm op (r::rs)=Xn r.st op+Pm op rs:=by
 unfold Pm;rw[Zgy,Nu,← Pm];omega
structure Zuu(m:Wc):Prop where
 o0:1≤m.op
 o1:m.op≤7
 t1:Wz m.op=true→1≤m.ttl∧m.ttl≤1073741824
 t0:Wz m.op=false→m.ttl=0
 l0:1≤m.ns.length
 l1:m.ns.length≤16
 q:m.op=7→m.ns.length≤1
 srt:srt m.ns=true
 good:m.ns.all Q7=true
inductive Kc (m:Wc) (x:Shr):Int→Wc→Shr→Prop
 | idle:m.st=0→Kc m x 0 m x
 | bad (m':Wc):m.st=1→m'.st=7→m'.cl=m.cl→m'.i=m.i→m'.ns=[]→m'.ans.e≠0→Kc m x 3 m' x
 | req (m':Wc):m.st=1→m'.st=2→m'.cl=m.cl→m'.i=m.i→Zuu m'→Kc m x 1 m' x
 | block (n:Nm) (c:Nat):m.st=2→m.i=(c:Int)→m.ns[c]?=some n→0≤Zpc (Xg x.ks n.k)→Zpc (Xg x.ks n.k)≠m.cl→Kc m x 2 m x
 | lock (n:Nm) (c:Nat) (v:Value):m.st=2→m.i=(c:Int)→m.ns[c]?=some n→((Xg x.ks n.k).st=1→0≤(Xg x.ks n.k).ow→(Xg x.ks n.k).ow=m.cl)→Kc m x 1 (Qb m m.ns.length 3) {x with kv:=v,ks:=Jt x.ks n.k ⟨1,m.cl,⟨#[]⟩,0⟩}
 | read (n:Nm) (c:Nat) (v:Value):m.st=3→m.i=(c:Int)→m.ns[c]?=some n→Kc m x 1 (Qb {m with rv:=v,rs:=m.rs++[Xg x.rs n.k]} m.ns.length 4) x
 | stay:m.st=4→(Wq x.cp m.op m.cl m.ttl x.clock x.sum (m.ns.zip m.rs)).e≠0∨m.op=7→Kc m x 3 {m with ans:=Wq x.cp m.op m.cl m.ttl x.clock x.sum (m.ns.zip m.rs),st:=6} x
 | go:m.st=4→(Wq x.cp m.op m.cl m.ttl x.clock x.sum (m.ns.zip m.rs)).e=0→m.op≠7→Kc m x 3 {m with ans:=Wq x.cp m.op m.cl m.ttl x.clock x.sum (m.ns.zip m.rs),st:=5} {x with sum:=x.sum+Pm m.op m.rs}
 | write (n:Nm) (r:Rc) (c:Nat) (D:Int) (v:Value):m.st=5→m.i=(c:Int)→m.ns[c]?=some n→m.rs[c]?=some r→(0≤m.ans.tick+m.ttl→m.ans.tick+m.ttl≤4000000000→D=m.ans.tick+m.ttl)→Kc m x 1 (Qb m m.ns.length 6) {x with rv:=v,rs:=Jt x.rs n.k (Vr m.op m.cl D n r)}
 | free (n:Nm) (c:Nat) (v:Value):m.st=6→m.i=(c:Int)→m.ns[c]?=some n→Kc m x 1 (Qb m m.ns.length 7) {x with kv:=v,ks:=Jt x.ks n.k ⟨0,0,⟨#[]⟩,0⟩}
 | reply:m.st=7→Kc m x 4 {m with st:=0} x
theorem Mk(l:List Kp)(k:ByteArray)(r:Rc):(Jt l k r).length≤l.length+1:=by
 have:∀ (l:List Kp) d,(Vv k r d l).length≤l.length+1:=by
  intro l
  induction l with
  | nil=>intro d;cases d<;>simp[Vv]
  | cons p l ih =>
   intro d;rw[Vv];split
   ·have:=ih d;simp;omega
   split
   ·have h1:∀ l:List Kp,(Vv k r true l).length≤l.length:=by
     intro l
     induction l with
     | nil=>simp[Vv]
     | cons p l ih2 =>
      rw[Vv];split
      ·simp;omega
      simp;omega
    have:=h1 l;simp;omega
   have:=ih d;simp;omega
 exact this l _
structure Zur(S:Nat→Prop)(T:Tbl)(mb xb:Nat)(m:Wc)(x:Shr)(w:World)(s:Int)(m':Wc)(x':Shr)(w':World):Prop where
 mach:Wa w' S T mb m'
 mok:MOk m'
 shr:Qc w' S xb x'
 chg:Chg (fun j=>j=mb∨j=xb) w w'
 xok:∀ t,XOk t x→XOk (t+1) x'
 live:m'.st≠0→m.st≠0
 par:m.st=1→s=3∨m'.st=2
 rel:Kc m x s m' x'
def Ji(S:Nat→Prop)(T:Tbl)(mb xb:Nat)(m:Wc)(x:Shr)(w:World)(e:Ending)(w':World):Prop :=
 ∃ (s:Int) (m':Wc) (x':Shr),e=.returned (.int .i64 s)∧Zur S T mb xb m x w s m' x' w'
structure Ur(S:Nat→Prop)(T:Tbl)(mb xb:Nat)(m:Wc)(x:Shr)(w:World):Prop where
 mach:Wa w S T mb m
 mok:MOk m
 shr:Qc w S xb x
 ne:mb≠xb
 sm:¬ S mb
 sx:¬ S xb
 new:∀ k,w.heap.size≤k→S k
 tbl:Xk w S T
theorem Wa.c{w:World}{S:Nat→Prop}{T:Tbl}{b:Nat}{m:Wc}(h:Wa w S T b m)(j:Nat){v:Value}(hv:(machC T m)[j]?=some v):w.cell? ⟨b,j,none⟩=some v:=by
 rw[h.cells.at_ j (Zr.1 hv).1,hv]
theorem Qc.c{w:World}{S:Nat→Prop}{b:Nat}{x:Shr}(h:Qc w S b x)(j:Nat){v:Value}(hv:(Zlg x)[j]?=some v):w.cell? ⟨b,j,none⟩=some v:=by
 rw[h.cells.at_ j (Zr.1 hv).1,hv]
theorem Wa.ext{w w':World}{S:Nat→Prop}{T:Tbl}{b:Nat}{m:Wc}(h:Wa w S T b m)(x:Ext w w'):Wa w' S T b m:=⟨h.cells.ext x,Rd.ext h.ns x,Rd.ext h.rs x⟩
theorem Qc.ext{w w':World}{S:Nat→Prop}{b:Nat}{x:Shr}(h:Qc w S b x)(e:Ext w w'):Qc w' S b x:=⟨h.cells.ext e,Rd.ext h.ks e,Rd.ext h.rs e⟩
theorem Wa.put{w:World}{S:Nat→Prop}{T:Tbl}{b:Nat}{m m':Wc}(h:Wa w S T b m)(hb:¬ S b){j:Nat}(hj:j<28){v:Value}(e:(machC T m).set j v=machC T m')(e1:m'.lv=m.lv)(e2:m'.ns=m.ns)(e3:m'.rv=m.rv)(e4:m'.rs=m.rs):Wa (w.setCell ⟨b,j,none⟩ v) S T b m' :=
 ⟨e▸h.cells.set (j:=j) hj v,by rw[e1,e2];exact RdE.far (E:=nmE) h.ns hb v,by rw[e3,e4];exact Rd.chg h.rs ((Chg.refl (· = b) w).setCell (p:=⟨b,j,none⟩) (.inl rfl) v) (fun _ hk e=>hb (e▸hk))⟩
theorem Qc.far{w:World}{S:Nat→Prop}{b c j:Nat}{x:Shr}(h:Qc w S b x)(hne:b≠c)(hc:¬ S c)(v:Value):Qc (w.setCell ⟨c,j,none⟩ v) S b x :=
 h.chg (U:=(· = c)) ((Chg.refl (· = c) w).setCell (p:=⟨c,j,none⟩) (.inl rfl) v) hne (fun _ hk e=>hc (e▸hk))
theorem Wa.far{w:World}{S:Nat→Prop}{T:Tbl}{b c j:Nat}{m:Wc}(h:Wa w S T b m)(hne:b≠c)(hc:¬ S c)(v:Value):Wa (w.setCell ⟨c,j,none⟩ v) S T b m :=
 h.chg (U:=(· = c)) ((Chg.refl (· = c) w).setCell (p:=⟨c,j,none⟩) (.inl rfl) v) hne (fun _ hk e=>hc (e▸hk))
theorem Zru{S:Nat→Prop}(T:Tbl)(mb xb:Nat)(m:Wc)(x:Shr)(w:World)(h:Ur S T mb xb m x w)(hs:m.st=0):Calls prog 115 #[.pointer (some ⟨mb,0,none⟩),.pointer (some ⟨xb,0,none⟩)] w (Ji S T mb xb m x w):=by
 have z13:w.cell? ⟨mb,13,none⟩=some (.int .i64 m.st):=h.mach.c 13 rfl;have H:=Y4 h;have Hs:=Y4 hs;rw[hs]at z13;clear h hs;go_enter func115,ntmps115;go_wp2_with fail;go_ret;exact⟨0,m,x,rfl,H.o.mach,H.o.mok,H.o.shr,Chg.refl _ _,fun t h=>h.up,fun h=>h,fun h=>by rw[Hs.o]at h;simp at h,.idle Hs.o⟩
theorem Zvo{S:Nat→Prop}(T:Tbl)(mb xb:Nat)(m:Wc)(x:Shr)(w:World)(h:Ur S T mb xb m x w)(hs:m.st=7):Calls prog 115 #[.pointer (some ⟨mb,0,none⟩),.pointer (some ⟨xb,0,none⟩)] w (Ji S T mb xb m x w):=by
 have z13:w.cell? ⟨mb,13,none⟩=some (.int .i64 m.st):=h.mach.c 13 rfl;have fz:=h.mach.cells.fz;have H:=Y4 h;have Hs:=Y4 hs;rw[hs]at z13;clear h hs;go_enter func115,ntmps115;go_wp2_with fail;go_ret;exact⟨4,{m with st:=0},x,rfl,H.o.mach.put H.o.sm (by omega) rfl rfl rfl rfl rfl,⟨by simp,by simp,H.o.mok.c0,H.o.mok.c1,fun h=>by simp at h,fun h=>by simp at h,fun h=>by simp at h,fun h=>by simp at h,fun h=>by simp at h⟩,
  H.o.shr.far H.o.ne.symm H.o.sm _,(Chg.refl _ _).setCell (.inl (.inl rfl)) _,fun t h=>h.up,fun h=>by simp at h,fun h=>by rw[Hs.o]at h;simp at h,.reply Hs.o⟩
theorem Ext.alloc_box{w:World}{T:Tbl}{a b:Array Value}{t t2:TypeId}(h:Ext w ((w.alloc (Wx T)).alloc (.cells a t))):Ext w ((w.alloc (Wx T)).alloc (.cells b t2)):=((Yl w).alloc _).alloc _
def sliceLen:Value→Nat | .slice _ n _=>n|_=>0
theorem Zmi{w:World}{v:Value}{l:List Nm}{c j n:Nat}{u:Value}(h:Rd w (fun k=>c<k∧n≤k) 3 v l.length (Wm l)):Rd (w.setCell ⟨c,j,none⟩ u) (fun k=>c<k∧n≤k) 3 v l.length (Wm l):=Rd.chg h ((Chg.refl (· = c) w).setCell (p:=⟨c,j,none⟩) (.inl rfl) u) (fun k hk e=>by omega)
def Zqv(N:Nat)(w:World)(e:Ending)(w':World):Prop:=∃ (nv av:Value) (ns:List Nm) (r:Ax),e=.returned (.tuple #[nv,av,Wu r])∧Vw w' (fun k=>w.heap.size≤k) nv ns∧(r.e=0→ns.length=N∧1≤ns.length∧ns.length≤16∧KG ns∧srt ns=true)∧(nv.oneCell'=true∧0≤r.tick)∧Ext w w'
theorem Zob(w:World)(a u k:ByteArray)(t:TypeId)(g:Nat)(hg:w.heap.size=g):RdE nmE (w.alloc (.cells #[.string a,.string u,.string k] t)) (fun _=>True) (.slice (some ⟨g,0,none⟩) 1 1) [⟨a,u,k⟩]:=by
 subst hg;exact Qr w #[.string a,.string u,.string k] t 3 rfl
theorem Zpr{S R:Nat→Prop}(T:Tbl)(hf:Few T)(hu:Uq T)(v:Value)(l:List ByteArray)(w:World)(h:Xk w S T)(hl:RdE Jr w R v l):Calls prog 171 #[Vn T,v] w (Zqv l.length w):=by
 obtain⟨A,C,rfl,hlC,hC⟩:=hl.shape;obtain⟨n,hn⟩:=gnX (l.length);have HL0:=Y4 hl;rw[hn]at hlC⊢;have Hnn:=Y4 hn;clear hl hn;have X0:=Y4 ((Yl w).alloc (Wx T));have H:=Y4 (h.up X0.o);have Hb0:=Y4 (Xm w T);clear h;have Hf:=Y4 hf;have Hu:=Y4 hu;clear hf hu;have hz0:=Fz (w.alloc (Wx T));obtain⟨rb,hrb⟩:=gnX ((w.alloc (Wx T)).heap.size);have hrb2:w.heap.size+1=rb:=by rw[← hrb];simp
 rw[hrb]at hz0;have hx0:=X0.o.alloc (.cells #[.int .i64 0,.int .i64 0,.string ⟨#[]⟩,.int .i64 0,.int .i64 0,.string ⟨#[]⟩,.int .i64 0,.int .i64 0] 53);have h01:=(Yl (w.alloc (Wx T))).alloc (.cells #[.int .i64 0,.int .i64 0,.string ⟨#[]⟩,.int .i64 0,.int .i64 0,.string ⟨#[]⟩,.int .i64 0,.int .i64 0] 53);by_cases hn0:n=0
 ·subst hn0;go_enter func171,ntmps171;go_wp2_with (first|(refine Xw rfl ?_));refine Ys (v:=.tuple #[.slice none 0 0,.slice none 0 0,Wu ⟨10,(-1),⟨#[]⟩,default,0⟩]) (by simp[results,results171,go_sem,Wu,Qp, *]) rfl ⟨.slice none 0 0,.slice none 0 0,[],⟨10,(-1),⟨#[]⟩,default,0⟩,rfl,Rd.nil _ _ _,fun h=>absurd h (by decide),⟨rfl,Zip _⟩,?_⟩;exact hx0.alloc_box
 have e0:((n:Int)==0)=false:=by simp;omega
 have e00:(n==0)=false:=by simp;omega
 have e000:¬ (n:Int)=0:=by omega
 by_cases h16:16<n
 ·have e1:decide ((16:Int)<(n:Int))=true:=Yf;go_enter func171,ntmps171;go_wp2_with (first|(refine Xw rfl ?_));refine Ys (v:=.tuple #[.slice none 0 0,.slice none 0 0,Wu ⟨7,(-1),⟨#[]⟩,default,0⟩]) (by simp[results,results171,go_sem,Wu,Qp, *]) rfl ⟨.slice none 0 0,.slice none 0 0,[],⟨7,(-1),⟨#[]⟩,default,0⟩,rfl,Rd.nil _ _ _,fun h=>absurd h (by decide),⟨rfl,Zip _⟩,?_⟩;exact hx0.alloc_box
 have e1:decide ((16:Int)<(n:Int))=false:=Yg;go_enter func171,ntmps171;go_wp2_with (first|(refine Xw rfl ?_));obtain⟨W0,hW0⟩:=gnX ((w.alloc (Wx T)).alloc (.cells #[.int .i64 0,.int .i64 0,.string ⟨#[]⟩,.int .i64 0,.int .i64 0,.string ⟨#[]⟩,.int .i64 0,.int .i64 0] 53));rw[hW0]at hz0 hx0 h01;rw[hW0];have HZ0:=Y4 hz0;have HX0:=Y4 hx0;have H1:=Y4 (H.o.up h01);have Hb1:=Y4 (Hb0.o.ext h01);have hrw:w.heap.size≤rb:=by omega
 have Hrw:=Y4 hrw;have HL:=Y4 (HL0.o.ext HX0.o);obtain⟨B,hB⟩:=gnX (W0.heap.size);have HB:=Y4 hB;have HwB:=Y4 (show w.heap.size≤B by rw[← hB];exact hx0.size);clear hz0 hx0 h01 hW0 hrw hB HL0 X0 H Hb0 hrb hrb2;go_loopw [28,7] (fun o u wr=>∃ (i:Nat) (L:List Nm),i≤n∧o=.int .i64 (i:Int)∧Own nmE wr B u L∧L.length=i∧Ext W0 wr∧KG L) (fun o _ _=>n-(intOf o).toNat);case atStart=>exact⟨0,[],by omega,rfl,Own.nil _ _ _,rfl,Yl _,KG.nil⟩
 obtain⟨i,L,hi,rfl,ho,hLn,hx,hKS⟩:=hrel;have HKS:=Y4 hKS;clear hKS;obtain⟨A1,C1,rfl,hlC1,hC1⟩:=ho.shape;try rw[hLn]at ho
 try rw[hLn]
 rw[hLn]at hlC1;have Hx:=Y4 hx;have Ho:=Y4 ho;have HLn:=Y4 hLn;have hBw:B≤wr.heap.size:=by rw[← HB.o];exact hx.size
 have HBw:=Y4 hBw;clear hx ho hLn;by_cases hlt:i<n
 ·obtain⟨hd_i,i0_i,i1_i⟩:=LTl i n;obtain⟨x,hx0⟩:=geX (l:=l) (i:=i) (by rw[Hnn.o];exact hlt);obtain⟨g,o,c,hv,_,_,_,hg,c0⟩:=strs_get (HL.o.ext Hx.o) hx0;rw[Hnn.o]at hv;simp only[Ye]at hv;obtain⟨rfl,-,rfl⟩:=hv;clear hx0;go_wp2_with (refine Xz (Hb1.o.ext Hx.o) rfl ?_);refine(Zuc T Hf.o Hu.o x _ (H1.o.up Hx.o)).mono ?_;rintro e w2 ⟨a,u,k,z,rfl,ha,hu2,hk,hgd,hx2⟩;have Hx2:=Y4 (Hx.o.trans hx2);have Ho2:=Y4 (Ho.o.ext hx2);have hB2:B≤w2.heap.size:=Zjw HBw.o hx2.size;have Hgd:=Y4 (show z=0→Q7 ⟨a,u,k⟩=true from fun h=>by obtain⟨p,q⟩:=hgd h;simp[Q7,p,q]);clear hx2 c0 hgd;by_cases hz:z=0
  ·subst hz;go_wp2_with (at_builtin;(refine Xt nmE _ _ _ rfl rfl rfl rfl (Ho2.o.ext (((Yl _).alloc _).alloc _)) rfl (Zob _ a u k _ _ (by first|rfl|simp)) (by rw[HLn.o];show _+1≤_;omega) (by show 48≤1000;omega) (by simp;omega) ?_;intro A5 n5 c5 w5 hg5;have Hx5:=Y4 (hg5.ext W0 ((Hx2.o.alloc _).alloc _) (by rw[HB.o];exact Yn _));have Hg5:=Y4 hg5;clear hg5));go_roundw;case rel=>exact⟨i+1,_,by omega,by go_num,Hg5.o.own,by rw[Zs,HLn.o];rfl,Hx5.o,HKS.o.snoc hk (Hgd.o (by first|exact True.intro|rfl))⟩
   (simp[intOf];omega)
  have hzb:(!(z==0))=true:=by simp[hz]
  have hzc:(z !=0)=true:=hzb;have hzd:(z==0)=false:=by simp[hz]
  have hzH:=Y4 hz;clear hz;obtain⟨y0,y1,y2,y3,y4,y5,y6,y7,yf,yl⟩:=HZ0.o.ext (Hx2.o.alloc (.cells #[.string a,.string u,.string k] 109));go_wp2_with fail;refine Ys (v:=.tuple #[.slice none 0 0,.slice none 0 0,Wu ⟨z,(i:Int),⟨#[]⟩,default,0⟩]) (by simp[results,results171,go_sem,Wu,Qp, *]) rfl ⟨.slice none 0 0,.slice none 0 0,[],⟨z,(i:Int),⟨#[]⟩,default,0⟩,rfl,Rd.nil _ _ _,fun h=>absurd h hzH.o,⟨rfl,Zip _⟩,?_⟩;(repeat refine Ya ?_ Hrw.o _)
  exact HX0.o.trans (Hx2.o.alloc _)
 have hd_i:=GEl i n;obtain rfl:i=n:=by omega
 obtain⟨B2,hB2⟩:=gnX (wr.heap.size);have HB2:=Y4 hB2;have HrB:=Y4 (show rb<B2 by rw[← hB2];exact(HZ0.o.ext Hx.o).lt);have HwB2:=Y4 (show w.heap.size≤B2 by rw[← hB2];exact Zjw HwB.o hBw);have HN:=Y4 (show Vw wr (fun k=>B≤k) (.slice A1 L.length C1) L from by have:=Ho.o;rw[← HLn.o]at this;exact this.rd);have hXW:=HX0.o.trans Hx.o;have HXW:=Y4 hXW;have HZ1:=Y4 (HZ0.o.ext Hx.o);unfold maxLen at hC1;clear hB2 hBw HBw Ho Hx HB Hb1 H1 HZ0 HX0 hXW;go_wp2_with fail;go_loopw [12,13] (fun u v wr2=>∃ (out:List Nm) (av:List Int),Own nmE wr2 B2 u out∧Own Wb wr2 B2 v av∧(∀ k,u.ownBlock=some k→v.ownBlock≠some k)∧Gd L (Fq out)=out.length∧out.length≤i∧av.length=out.length∧Ext wr wr2∧KG out∧srt out=true) (fun u _ _=>i-sliceLen u);case atStart=>exact⟨[],[],Own.nil _ _ _,Own.nil _ _ _,(by intro k h;cases h),Cz L,by simp,rfl,Yl _,KG.nil,rfl⟩
 rename World=>wq
 obtain⟨out,av,hou,hav,hne,hch,hol,hal,hx,hKo⟩:=hrel;have HKo:=Y4 hKo;clear hKo;obtain⟨A2,C2,rfl,hlC2,hC2⟩:=hou.shape;obtain⟨A3,C3,rfl,hlC3,hC3⟩:=hav.shape;obtain⟨m,hm⟩:=gnX (out.length);rw[hal]at hav hlC3 hne⊢;rw[hm]at hou hlC2 hol hch hav hlC3 hne⊢;have Hm:=Y4 hm;have Hal:=Y4 (hal.trans hm);have Hou:=Y4 hou;have Hav:=Y4 hav;have Hne:=Y4 hne;have Hch:=Y4 hch;have Hx:=Y4 hx;have hBw2:B2≤wq.heap.size:=by rw[← HB2.o];exact hx.size
 have HBw2:=Y4 hBw2;unfold maxLen at hC2;clear hal hm hou hav hne hch hx hBw2;by_cases hlt:m<i
 ·obtain⟨hd_m,i0_m,i1_m⟩:=LTl m i;go_wp2_with fail;obtain⟨o9,ho9⟩:=gnX (Fq out);have Ho9:=Y4 ho9;clear ho9;go_loopw [56,14] (fun o z wx=>∃ (j:Nat) (Z:Int),j≤i∧o=.int .i64 (j:Int)∧z=.int .i64 Z∧Sel L o9 j Z∧Ext wq wx) (fun o _ _=>i-(intOf o).toNat);case atStart=>exact⟨0,-1,by omega,rfl,rfl,Sel.start _ _,Yl _⟩
  rename World=>wi
  obtain⟨j,Z,hj,rfl,rfl,hsel,hxi⟩:=hrel;have Hsel:=Y4 hsel;have Hxi:=Y4 hxi;clear hxi;by_cases hji:j<i
  ·obtain⟨hd_j,i0_j,i1_j⟩:=LTl j i;obtain⟨nm,hnm⟩:=geX (l:=L) (i:=j) (by rw[HLn.o];exact hji);obtain⟨g,o,c,hv,_,_,_,hg,hcell⟩:=(HN.o.ext (Hx.o.trans Hxi.o)).get (j:=j) (by rw[HLn.o];exact hji);rw[HLn.o]at hv;simp only[Ye]at hv;obtain⟨rfl,-,rfl⟩:=hv;obtain⟨q0,q1,q2⟩:=hcell j nm hnm;have hzc:=Hsel.o.at_;go_wp2_with fail;have q9:(wi.alloc (.cells #[.string nm.a,.string nm.u,.string nm.k] 109)).cell? ⟨wi.heap.size,2,none⟩=some (.string nm.k):=by go_simp
   have m9:=lat q9;have Hnm:=Y4 hnm;clear q0 q1 q2 q9 hsel hnm;rcases Zj4 m with hm0|hm0
   ·have hob:Behind o9 nm=true:=by
     have h1:out=[]:=Zjk (by rw[Hm.o];exact hm0);rw[← Ho9.o,h1];rfl
    have Hb:=Y4 hob;have k1:((m:Int)==0)=true:=by simp;omega
    have k2:(m==0)=true:=by simp;omega
    clear hob hm0;rcases hzc with rfl | ⟨k,mk,rfl,hk,hmk⟩
    ·clear hcell;have hun:=Yb;refine Y8 (by kernel_rfl) (by kernel_rfl) ?_;repeat((with_reducible refine Yu ?_);intro K hK;go_simp;(with_reducible refine hK _ ?_);clear hK K)
     (with_reducible refine Yt ?_)
     intro w9 hy9;clear hun;try simp only[Yc]
     go_wp2_with fail;go_roundw;case rel=>exact⟨j+1,_,by omega,by go_num,rfl,(Hsel.o.first Hnm.o Hb.o),(Hxi.o.alloc _).trans hy9⟩
     (simp[intOf];omega)
    have z1:decide ((k:Int)<0)=false:=Yg;have z2:(0:Int)≤(k:Int):=by omega
    have z3:(k:Int)<(i:Int):=by omega
    have z4:k<i:=by omega
    obtain⟨p0,p1,p2⟩:=hcell k mk hmk;have m8:=lat (((((Yl wi).alloc (.cells #[.string nm.a,.string nm.u,.string nm.k] 109))).cell (p:=⟨g,o+k*3+2,none⟩) hg).trans p2);have Hmk:=Y4 hmk;clear p0 p1 p2 hcell hmk;by_cases hl:kb nm.k<kb mk.k
    ·have l1:=Tn hl;have Hl:=Y4 hl;clear hl;have hun:=Yb;refine Y8 (by kernel_rfl) (by kernel_rfl) ?_;repeat((with_reducible refine Yu ?_);intro K hK;go_simp;(with_reducible refine hK _ ?_);clear hK K)
     (with_reducible refine Yt ?_)
     intro w9 hy9;clear hun;try simp only[Yc]
     go_wp2_with fail;go_roundw;case rel=>exact⟨j+1,_,by omega,by go_num,rfl,(Hsel.o.less Hmk.o Hnm.o Hb.o Hl.o),(Hxi.o.alloc _).trans hy9⟩
     (simp[intOf];omega)
    have l1:=Pz hl;have Hl:=Y4 hl;clear hl;have hun:=Yb;refine Y8 (by kernel_rfl) (by kernel_rfl) ?_;repeat((with_reducible refine Yu ?_);intro K hK;go_simp;(with_reducible refine hK _ ?_);clear hK K)
    (with_reducible refine Yt ?_)
    intro w9 hy9;clear hun;try simp only[Yc]
    go_wp2_with fail;go_roundw;case rel=>exact⟨j+1,_,by omega,by go_num,rfl,(Hsel.o.keep Hmk.o Hnm.o Hl.o),(Hxi.o.alloc _).trans hy9⟩
    (simp[intOf];omega)
   have k1:((m:Int)==0)=false:=by simp;omega
   have k2:(m==0)=false:=by simp;omega
   have k3:¬ (m:Int)=0:=by omega
   obtain⟨r,hr⟩:=gnX (m-1);obtain⟨y,hy⟩:=geX (l:=out) (i:=r) (by rw[Hm.o];omega);have hlk:Fq out=some (kb y.k):=Zpw (by rw[Hm.o,hr];exact hy);have r1:IntKind.i64.wrap ((m:Int)-1)=(r:Int):=by rw[Yp _ (by omega)];omega
   have r2:(0:Int)≤(r:Int):=by omega
   have r3:(r:Int)<(m:Int):=by omega
   have r4:r<m:=by omega
   have HO:=Y4 (show Vw wi (fun k=>B2≤k) (.slice A2 out.length C2) out from by have:=Hou.o.ext Hxi.o;rw[← Hm.o]at this;exact this.rd);obtain⟨g2,o2,c2,hv2,_,_,_,hg2,hcell2⟩:=HO.o.get (j:=r) (by rw[Hm.o];exact r4);rw[Hm.o]at hv2;simp only[Ye]at hv2;obtain⟨rfl,-,rfl⟩:=hv2;obtain⟨p0,p1,p2⟩:=hcell2 r y hy;have m7:=lat (((((Yl wi).alloc (.cells #[.string nm.a,.string nm.u,.string nm.k] 109))).cell (p:=⟨g2,o2+r*3+2,none⟩) hg2).trans p2);have hoy:o9=some (kb y.k):=by rw[← Ho9.o,hlk]
   clear p0 p1 p2 hcell2 hr hy hlk;by_cases hbe:kb y.k<kb nm.k
   ·obtain⟨l2,l3⟩:=Zmv hbe;have Hb:=Y4 (show Behind o9 nm=true by rw[hoy];simp[Behind,hbe]);clear hbe hoy;rcases hzc with rfl | ⟨k,mk,rfl,hk,hmk⟩
    ·clear hcell;have hun:=Yb;refine Y8 (by kernel_rfl) (by kernel_rfl) ?_;repeat((with_reducible refine Yu ?_);intro K hK;go_simp;(with_reducible refine hK _ ?_);clear hK K)
     (with_reducible refine Yt ?_)
     intro w9 hy9;clear hun;try simp only[Yc]
     go_wp2_with fail;go_roundw;case rel=>exact⟨j+1,_,by omega,by go_num,rfl,(Hsel.o.first Hnm.o Hb.o),(Hxi.o.alloc _).trans hy9⟩
     (simp[intOf];omega)
    have z1:decide ((k:Int)<0)=false:=Yg;have z2:(0:Int)≤(k:Int):=by omega
    have z3:(k:Int)<(i:Int):=by omega
    have z4:k<i:=by omega
    obtain⟨p0,p1,p2⟩:=hcell k mk hmk;have m8:=lat (((((Yl wi).alloc (.cells #[.string nm.a,.string nm.u,.string nm.k] 109))).cell (p:=⟨g,o+k*3+2,none⟩) hg).trans p2);have Hmk:=Y4 hmk;clear p0 p1 p2 hcell hmk;by_cases hl:kb nm.k<kb mk.k
    ·have l1:=Tn hl;have Hl:=Y4 hl;clear hl;have hun:=Yb;refine Y8 (by kernel_rfl) (by kernel_rfl) ?_;repeat((with_reducible refine Yu ?_);intro K hK;go_simp;(with_reducible refine hK _ ?_);clear hK K)
     (with_reducible refine Yt ?_)
     intro w9 hy9;clear hun;try simp only[Yc]
     go_wp2_with fail;go_roundw;case rel=>exact⟨j+1,_,by omega,by go_num,rfl,(Hsel.o.less Hmk.o Hnm.o Hb.o Hl.o),(Hxi.o.alloc _).trans hy9⟩
     (simp[intOf];omega)
    have l1:=Pz hl;have Hl:=Y4 hl;clear hl;have hun:=Yb;refine Y8 (by kernel_rfl) (by kernel_rfl) ?_;repeat((with_reducible refine Yu ?_);intro K hK;go_simp;(with_reducible refine hK _ ?_);clear hK K)
    (with_reducible refine Yt ?_)
    intro w9 hy9;clear hun;try simp only[Yc]
    go_wp2_with fail;go_roundw;case rel=>exact⟨j+1,_,by omega,by go_num,rfl,(Hsel.o.keep Hmk.o Hnm.o Hl.o),(Hxi.o.alloc _).trans hy9⟩
    (simp[intOf];omega)
   have l2:=Zq4 hbe;have Hb:=Y4 (show Behind o9 nm=false by rw[hoy];simp[Behind,hbe]);clear hbe hoy hcell hzc;have hun:=Yb;refine Y8 (by kernel_rfl) (by kernel_rfl) ?_;repeat((with_reducible refine Yu ?_);intro K hK;go_simp;(with_reducible refine hK _ ?_);clear hK K)
   (with_reducible refine Yt ?_)
   intro w9 hy9;clear hun;try simp only[Yc]
   go_wp2_with fail;go_roundw;case rel=>exact⟨j+1,_,by omega,by go_num,rfl,(Hsel.o.skip Hnm.o Hb.o),(Hxi.o.alloc _).trans hy9⟩
   (simp[intOf];omega)
  have hd_j:=GEl j i;obtain rfl:j=i:=by omega
  have hseln:Sel L o9 L.length Z:=by rw[HLn.o];exact hsel
  obtain⟨k,mk,rfl,hk,hmk,hbk,hmin,hfirst⟩:=hseln.found (by rw[← Ho9.o,Hch.o,HLn.o];exact hlt);rw[HLn.o]at hk;have Hmk:=Y4 hmk;have Hbk:=Y4 hbk;have Hmin:=Y4 hmin;have Hfirst:=Y4 hfirst;obtain⟨K1,hK1⟩:=gnX (k+1);have r1:IntKind.i64.wrap ((k:Int)+1)=(K1:Int):=by rw[Yp _ (by omega)];omega
  clear hseln hsel hmk hbk hmin hfirst Hsel;go_wp2_with fail;go_loopw [17] (fun o wx=>∃ q:Nat,K1≤q∧q≤j∧o=.int .i64 (q:Int)∧(∀ p x,k<p→p<q→L[p]?=some x→x.k≠mk.k)∧Ext wi wx) (fun o _=>j-(intOf o).toNat);case atStart=>exact⟨K1,by omega,by omega,rfl,fun p x h1 h2=>by omega,Yl _⟩
  rename World=>w4
  obtain⟨q,hq1,hq2,rfl,htw,hx4⟩:=hrel;have Htw:=Y4 htw;have HX4:=Y4 (Hxi.o.trans hx4);have HXi4:=Y4 hx4;clear htw hx4;by_cases hqj:q<j
  ·obtain⟨hd_q,i0_q,i1_q⟩:=LTl q j;obtain⟨nq,hnq⟩:=geX (l:=L) (i:=q) (by rw[HLn.o];exact hqj);obtain⟨g,o,c,hv,_,_,_,hg,hcell⟩:=(HN.o.ext (Hx.o.trans HX4.o)).get (j:=q) (by rw[HLn.o];exact hqj);rw[HLn.o]at hv;simp only[Ye]at hv;obtain⟨rfl,-,rfl⟩:=hv;obtain⟨q0,q1,q2⟩:=hcell q nq hnq;obtain⟨p0,p1,p2⟩:=hcell k mk Hmk.o;have m1:=lat q2;have m2:=lat p2;have z2:(0:Int)≤(k:Int):=by omega
   have z3:(k:Int)<(j:Int):=by omega
   have Hnq:=Y4 hnq;clear p0 p1 q1 hcell hnq;cases heq:(nq.k.toList==mk.k.toList)
   ·have heq2:¬ nq.k.toList=mk.k.toList:=by simpa using heq
    have hne2:nq.k≠mk.k:=fun e=>heq2 (by rw[e])
    have Hne2:=Y4 hne2;clear hne2 q0;go_wp2_with fail;have hun:=Yb;refine Y8 (by kernel_rfl) (by kernel_rfl) ?_;repeat((with_reducible refine Yu ?_);intro K hK;go_simp;(with_reducible refine hK _ ?_);clear hK K)
    (with_reducible refine Yt ?_)
    intro w9 hy9;clear hun;try simp only[Yc]
    go_wp2_with fail;go_roundw;case rel =>
     refine⟨q+1,by omega,by omega,by go_num,fun p x h1 h2 h3=>?_,HXi4.o.trans hy9⟩;rcases(show p<q∨p=q by omega)with h4|rfl
     ·exact Htw.o p x h1 h4 h3
     rw[Hnq.o]at h3;cases h3;exact Hne2.o
    case measure=>(simp[intOf];omega)
   have heq2:nq.k.toList=mk.k.toList:=by simpa using heq
   clear heq2;go_wp2_with fail;have hun:=Yb;refine Y8 (by kernel_rfl) (by kernel_rfl) ?_;repeat((with_reducible refine Yu ?_);intro K hK;go_simp;(with_reducible refine hK _ ?_);clear hK K)
   (with_reducible refine Yt ?_)
   intro w9 hy9;clear hun;try simp only[Yc]
   have q0':=(hy9.cell (p:=⟨g,o+q*3,none⟩) hg).trans q0;have HX9:=Y4 (HX4.o.trans hy9);clear q0 q2 p2 m1 m2 hy9;obtain⟨y0,y1,y2,y3,y4,y5,y6,y7,yf,yl⟩:=HZ1.o.ext (Hx.o.trans HX9.o);go_wp2_with fail;go_region;all_goals
    go_wp2_with fail;refine Ys (v:=.tuple #[.slice none 0 0,.slice none 0 0,Wu ⟨22,(q:Int),nq.a,default,0⟩]) (by simp[results,results171,go_sem,Wu,Qp, *]) rfl ⟨.slice none 0 0,.slice none 0 0,[],⟨22,(q:Int),nq.a,default,0⟩,rfl,Rd.nil _ _ _,fun h=>absurd h (show ¬ (22:Int)=0 by decide),⟨rfl,Zip _⟩,?_⟩;(first|refine Yi ?_|refine Yj ?_ _|skip)
    (repeat refine Ya ?_ Hrw.o _)
    first|exact HXW.o.trans (Hx.o.trans HX9.o)|exact(HXW.o.trans (Hx.o.trans HX9.o)).drew|exact(HXW.o.trans (Hx.o.trans HX9.o)).drewN _
  have hd_q:=GEl q j;obtain rfl:q=j:=by omega
  obtain⟨g,o,c,hv,_,_,_,hg,hcell⟩:=(HN.o.ext (Hx.o.trans HX4.o)).get (j:=k) (by rw[HLn.o];exact hk);rw[HLn.o]at hv;simp only[Ye]at hv;obtain⟨rfl,-,rfl⟩:=hv;obtain⟨p0,p1,p2⟩:=hcell k mk Hmk.o;have z2:(0:Int)≤(k:Int):=by omega
  have z3:(k:Int)<(q:Int):=by omega
  have V4:=Y4 (Hou.o.ext HX4.o);have U4:=Y4 (Hav.o.ext HX4.o);have hB4:B2≤w4.heap.size:=Zjw HBw2.o HX4.o.size;clear hcell;go_wp2_with (first|(at_builtin;(refine Xt nmE _ _ _ rfl rfl rfl rfl (V4.o.ext ((Yl _).alloc _)) rfl (Zob w4 mk.a mk.u mk.k _ _ rfl) (by rw[Hm.o];show m+1≤_;omega) (by show 48≤1000;omega) (by simp;omega) ?_;intro A5 n5 c5 w5 hg5;have H5:=Y4 hg5;have X5:=Y4 (hg5.ext wr ((Hx.o.trans HX4.o).alloc _) (by rw[HB2.o];exact Yn _));have U5:=Y4 ((U4.o.ext ((Yl _).alloc _)).chg hg5.chg (fun kk h1 h2=>Hne.o kk h2 h1));have hB5:B2≤w5.heap.size:=(by rw[← HB2.o];exact X5.o.size);clear hg5))|(at_builtin;(refine Xt Wb _ _ _ rfl rfl rfl rfl (U5.o.ext ((Yl _).alloc _)) rfl (Wr w5 (k:Int) _ _ rfl) (by rw[Hal.o];show m+1≤_;omega) (by show 8≤1000;omega) (by simp;omega) ?_;intro A6 n6 c6 w6 hg6;have H6:=Y4 hg6;have X6:=Y4 (hg6.ext wr (X5.o.alloc _) (by rw[HB2.o];exact Yn _));clear hg6)));go_roundw;case rel =>
   have hlt5:∀ kk,(Value.slice A5 n5 c5).ownBlock=some kk→kk<w5.heap.size:=fun kk h=>(H5.o.own.lt kk h).2
   have hn56:∀ kk,(Value.slice A5 n5 c5).ownBlock=some kk→(Value.slice A3 m C3).ownBlock≠some kk:=by
    intro kk h1 h2;rcases H5.o.at_ with h|h
    ·exact Hne.o kk ((show(Value.slice A5 n5 c5).ownBlock=(Value.slice A2 m C2).ownBlock from h).symm.trans h1) h2
    rw[h1]at h;have h3:=(U4.o.lt kk h2).2;simp at h;omega
   have hst:=Cy Hmk.o Hbk.o Hmin.o (fun p x h1 h2=>by
    rcases Zi2 p k with h|h|h
    ·exact absurd h2 (Hfirst.o p x h h1)
    ·exact h
    exact absurd h2 (Htw.o p x h (by have:=(Zr.1 h1).1;rw[HLn.o]at this;exact this) h1))
   refine⟨out++[mk],av++[(k:Int)],(H5.o.own.ext ((Yl _).alloc _)).chg H6.o.chg (fun kk h1 h2=>hn56 kk h1 h2),H6.o.own,fun kk h1 h2=>?_,by rw[Zwl,hst,← Ho9.o,Hch.o,Zs,Hm.o];rfl,by rw[Zs,Hm.o];show m+1≤_;omega,by simp[Hm.o,Hal.o],X6.o,HKo.o.1.snoc (HKS.o.1 _ (Zy Hmk.o)) (Zh1.1 HKS.o.2 _ (Zy Hmk.o)),Zxq HKo.o.2 (by rw[Ho9.o];exact Hbk.o)⟩;rcases H6.o.at_ with h|h
   ·exact hn56 kk h1 ((show(Value.slice A6 n6 c6).ownBlock=(Value.slice A3 m C3).ownBlock from h).symm.trans h2)
   have h3:=hlt5 kk h1;rw[h2]at h;simp at h;omega
  case measure =>
   have e5:n5=m+1:=by rw[H5.o.len,Zs,Hm.o];rfl
   simp only[sliceLen];omega
 have hd_m:=GEl m i;obtain⟨y0,y1,y2,y3,y4,y5,y6,y7,yf,yl⟩:=HZ1.o.ext Hx.o;go_wp2_with fail;refine Ys (v:=.tuple #[.slice A2 m C2,.slice A3 m C3,Wu ⟨0,-1,⟨#[]⟩,default,0⟩]) (by simp[results,results171,go_sem,Wu,Qp, *]) rfl ⟨.slice A2 m C2,.slice A3 m C3,out,⟨0,-1,⟨#[]⟩,default,0⟩,rfl,?_,fun _=>⟨by rw[Hm.o];omega,by rw[Hm.o];omega,by rw[Hm.o];omega,HKo.o⟩,⟨rfl,Zip _⟩,?_⟩
 ·have h9:Vw wq (fun k=>B2≤k) (.slice A2 m C2) out:=by have:=Hou.o;exact this.rd
  have h8:Vw wq (fun k=>rb<k∧w.heap.size≤k) (.slice A2 m C2) out:=Rd.mono h9 fun k hk _=>by have:=HwB2.o;have:=HrB.o;omega
  refine Rd.mono (S:=fun k=>rb<k∧w.heap.size≤k) ?_ fun _ hk _=>hk.2
  (repeat refine Zmi ?_)
  exact h8
 (repeat refine Ya ?_ Hrw.o _)
 exact HXW.o.trans Hx.o
theorem Iq(cl cp:Int)(hc:V7 cl cp=0)(w:World):Calls prog 63 #[.agg #[.int .i64 cl,.int .i64 cp]] w fun e w' =>
 ∃ rb b m,e=.returned (.pointer (some ⟨rb,0,none⟩))∧Ng w' rb b m cl cp [] 0∧w.heap.size≤rb∧w.heap.size≤m∧Ext w w':=by
 have x0:Ext w (w.alloc (.cells #[.int .i64 cl,.int .i64 cp] 37)):=(Yl w).alloc _;have X0:=Y4 x0;clear x0;go_enter func63,ntmps63;go_wp2_with fail;refine(Fg cl cp _).mono ?_;rintro x w1 (⟨h0,_⟩ | ⟨_,b,m,rfl,hmod,hb,hm,hx1⟩)
 ·omega
 have hs:=X0.o.size;have hbl:=hmod.lt;have hml:=hmod.map.lt;have HM:=Y4 hmod;have HX:=Y4 (X0.o.trans hx1);have Hb:=Y4 hb;have Hm:=Y4 hm;clear hmod hx1 hb hm;go_wp2_with fail;go_ret;refine⟨w1.heap.size,b,m,rfl,⟨by go_simp,by go_simp,by simp,by omega,by omega,by go_simp,HM.o.ext ((Yl _).alloc _)⟩,HX.o.size,Zjw hs Hm.o,HX.o.alloc _⟩
abbrev RSt:=List Kp×Int×Bool
def Jq(st:RSt)(o:Opn):Int:=if st.2.2=true∧o.bad.e=0 then o.res.tick else st.2.1
def Qz(st:RSt)(o:Opn):Bool:=if st.2.2=true∧o.bad.e=0 then false else st.2.2
def Vm(cl cp:Int)(st:RSt)(o:Opn):Int×RSt:=((Jm cl cp st.1 (Jq st o) o).1,(Jm cl cp st.1 (Jq st o) o).2.1,(Jm cl cp st.1 (Jq st o) o).2.2,Qz st o)
def Aa(cl cp:Int)(os:List Opn):List Nat→RSt→Option (Nat×Int)
 | [],_=>none
 | i::r,st=>match os[i]? with
  | some o=>if(Vm cl cp st o).1≠0 then some (i,(Vm cl cp st o).1)else Aa cl cp os r (Vm cl cp st o).2
  | none=>none
def stO(cl cp:Int)(os:List Opn)(l:List Nat)(st:RSt):RSt:=l.foldl (fun st i=>match os[i]? with|some o=>(Vm cl cp st o).2|none=>st) st
theorem Rj{cl cp:Int}{os:List Opn}{l:List Nat}{st:RSt}{k i:Nat}{o:Opn}(hi:l[k]?=some i)(ho:os[i]?=some o):stO cl cp os (l.take (k+1)) st=(Vm cl cp (stO cl cp os (l.take k) st) o).2:=by
 unfold stO;rw[Za,hi,Zgz,Zif];simp[ho]
theorem Me{cl cp:Int}{os:List Opn}:∀ {l:List Nat} {st:RSt} {k:Nat},(∀ j,j<k→∀ i o,l[j]?=some i→os[i]?=some o→(Vm cl cp (stO cl cp os (l.take j) st) o).1=0)→(∀ i∈l,∃ o,os[i]?=some o)→Aa cl cp os l st=Aa cl cp os (l.drop k) (stO cl cp os (l.take k) st)
 | l,st,0,_,_=>by simp[stO]
 | [],st,k+1,_,_=>by simp[stO]
 | i::r,st,k+1,h,hm=>by
  obtain⟨o,ho⟩:=hm i (Zhj ..);have h0:=h 0 (by omega) i o rfl ho;simp only[Z9,stO,List.foldl_nil]at h0;rw[Aa,ho];simp only[h0,ne_eq,not_true_eq_false,Zfm,Z6];have e:stO cl cp os ((i::r).take (k+1)) st=stO cl cp os (r.take k) (Vm cl cp st o).2:=by simp[stO,ho]
  rw[e];refine Me (l:=r) (st:=(Vm cl cp st o).2) (k:=k) (fun j hj i' o' h1 h2=>?_) fun x hx=>hm x (Zhb _ hx)
  have:=h (j+1) (by omega) i' o' (by simpa using h1) h2
  rwa [show stO cl cp os ((i::r).take (j+1)) st=stO cl cp os (r.take j) (Vm cl cp st o).2 by simp[stO,ho]]at this
theorem Zxy{cl cp:Int}{os:List Opn}{l:List Nat}{st:RSt}{k i:Nat}{o:Opn}(h:∀ j,j<k→∀ i o,l[j]?=some i→os[i]?=some o→(Vm cl cp (stO cl cp os (l.take j) st) o).1=0)(hm:∀ i∈l,∃ o,os[i]?=some o)(hi:l[k]?=some i)(ho:os[i]?=some o)(he:(Vm cl cp (stO cl cp os (l.take k) st) o).1≠0) :
 Aa cl cp os l st=some (i,(Vm cl cp (stO cl cp os (l.take k) st) o).1):=by
 rw[Me h hm];have:l.drop k=i::l.drop (k+1):=K2 hi;rw[this,Aa,ho];simp only[Zjx he]
theorem Zxz{cl cp:Int}{os:List Opn}{l:List Nat}{st:RSt}(h:∀ j,j<l.length→∀ i o,l[j]?=some i→os[i]?=some o→(Vm cl cp (stO cl cp os (l.take j) st) o).1=0)(hm:∀ i∈l,∃ o,os[i]?=some o):Aa cl cp os l st=none:=by
 rw[Me h hm,List.drop_length];rfl
