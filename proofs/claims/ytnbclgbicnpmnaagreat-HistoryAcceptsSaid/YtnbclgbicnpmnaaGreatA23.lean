/- Lemmas of this claim: Enc2, Sr, Dc, Dd. Conditions: as named. -/
import Derived.Test.YtnbclgbicnpmnaaGreatA16
import Derived.Test.YtnbclgbicnpmnaaGreatA19
import Derived.Test.YtnbclgbicnpmnaaGreatA22
namespace Go.Proofs.YtnbclgbicnpmnaaGreat
open Go.RowKit Go.Sort
set_option maxHeartbeats 0
set_option maxRecDepth 100000
set_option linter.all false
theorem Ux:(Tryz.prog.info? 99).map (fun i=>(i.zero,i.size,i.bytes))=some (some (.agg #[.int .i64 0,.int .i64 0,.int .i64 0]),3,24):=by kernel_rfl
theorem Ztd:Tryz.prog.underlying 31=some (.slice 99):=by kernel_rfl
theorem Zo7(l:List Sp):∀ u∈Vy l,u.oneCell'=true:=by
 induction l with
 | nil=>simp[Vy]
 | cons n r ih =>
  intro u hu;rw[Vy,Zj]at hu;rcases hu with hu|hu
  ·simp only[Lh,Zg,Zh,Zl8]at hu;rcases hu with rfl|rfl|rfl<;>rfl
  exact ih u hu
noncomputable def spE:Enc Sp where
 ty:=99
 sl:=31
 z:=3
 bytes:=24
 cells l:=Vy l
 app a b:=Uk a b
 len l:=Di l
 one l:=Zo7 l
 und:=Ztd
 i:=Classical.choose (Zm7 Ux)
 zero:=.agg #[.int .i64 0,.int .i64 0,.int .i64 0]
 info:=(Yo (Zm7 Ux)).1
 hz:=(Yo (Zm7 Ux)).2.1
 hs:=(Yo (Zm7 Ux)).2.2.1
 hb:=(Yo (Zm7 Ux)).2.2.2
 hc:=rfl
 pos:=by omega
theorem Uy:(Tryz.prog.info? 106).map (fun i=>(i.zero,i.size,i.bytes))=some (some (.agg #[.int .i64 0,.slice none 0 0]),2,32):=by kernel_rfl
theorem Zte:Tryz.prog.underlying 32=some (.slice 106):=by kernel_rfl
abbrev MpS:={m:Mp // m.tv.oneCell'=true}
def Znm(l:List MpS):List Value:=Vz (l.map Subtype.val)
theorem Zrl(l:List MpS):∀ u∈Znm l,u.oneCell'=true:=by
 induction l with
 | nil=>simp[Znm,Vz]
 | cons o r ih =>
  intro u hu;obtain⟨o,ho⟩:=o;simp only[Znm,Zlg,Vz,Zj]at hu;rcases hu with hu|hu
  ·simp only[Lz,Zg,Zh,Zl8]at hu;rcases hu with rfl|rfl
   ·rfl
   exact ho
  exact ih u hu
noncomputable def mpE:Enc MpS where
 ty:=106
 sl:=32
 z:=2
 bytes:=32
 cells l:=Znm l
 app a b:=by simp[Znm,Us]
 len l:=by simp[Znm,Dq]
 one l:=Zrl l
 und:=Zte
 i:=Classical.choose (Zm7 Uy)
 zero:=.agg #[.int .i64 0,.slice none 0 0]
 info:=(Yo (Zm7 Uy)).1
 hz:=(Yo (Zm7 Uy)).2.1
 hs:=(Yo (Zm7 Uy)).2.2.1
 hb:=(Yo (Zm7 Uy)).2.2.2
 hc:=rfl
 pos:=by omega
theorem Fj:(Tryz.prog.info? 109).map (fun i=>(i.zero,i.size,i.bytes))=some (some (.agg #[.string ⟨#[]⟩,.string ⟨#[]⟩,.string ⟨#[]⟩]),3,48):=by kernel_rfl
theorem Znt:Tryz.prog.underlying 49=some (.slice 109):=by kernel_rfl
noncomputable def nmE:Enc Nm where
 ty:=109
 sl:=49
 z:=3
 bytes:=48
 cells l:=Wo l
 app a b:=Ur a b
 len l:=Dp l
 one l:=Rh l
 und:=Znt
 i:=Classical.choose (Zm7 Fj)
 zero:=.agg #[.string ⟨#[]⟩,.string ⟨#[]⟩,.string ⟨#[]⟩]
 info:=(Yo (Zm7 Fj)).1
 hz:=(Yo (Zm7 Fj)).2.1
 hs:=(Yo (Zm7 Fj)).2.2.1
 hb:=(Yo (Zm7 Fj)).2.2.2
 hc:=rfl
 pos:=by omega
structure Cx where
 kind:Int
 cl:Int
 n:Int
 text:ByteArray
def Zna(a:Cx):List Value:=[.int .i64 a.kind,.int .i64 a.cl,.int .i64 a.n,.string a.text]
def Kv:List Cx→List Value
 | []=>[]
 | s::r=>Zna s++Kv r
theorem Pi:∀ l:List Cx,(Kv l).length=l.length*4
 | []=>rfl
 | n::r=>by rw[Kv,Zs,Pi r];simp[Zna];omega
theorem Dw:∀ a b:List Cx,Kv (a++b)=Kv a++Kv b
 | [],_=>rfl
 | n::r,b=>by simp[Kv,Dw r b]
theorem Ck:∀ {l:List Cx} {j:Nat} {s:Cx},l[j]?=some s→(Kv l)[j*4]?=some (.int .i64 s.kind)∧(Kv l)[j*4+1]?=some (.int .i64 s.cl)∧(Kv l)[j*4+2]?=some (.int .i64 s.n)∧(Kv l)[j*4+3]?=some (.string s.text)
 | m::r,0,n,h=>by
  simp only[Zx,Yd]at h;subst h;simp[Kv,Zna]
 | m::r,j+1,n,h=>by
  obtain⟨h1,h2,h3,h4⟩:=Ck (l:=r) (j:=j) (s:=n) (by simpa using h);have hm:(Zna m).length=4:=rfl;have e:∀ k,(Kv (m::r))[(j+1)*4+k]?=(Kv r)[j*4+k]?:=fun k=>by
   rw[Kv,Zd (by omega),hm];congr 1;omega
  refine⟨?_,?_,?_,?_⟩
  ·have:=e 0;simp only[Zl3]at this;rw[this,h1]
  ·rw[e 1,h2]
  ·rw[e 2,h3]
  rw[e 3,h4]
theorem Zsk(l:List Cx):∀ u∈Kv l,u.oneCell'=true:=by
 induction l with
 | nil=>simp[Kv]
 | cons n r ih =>
  intro u hu;rw[Kv,Zj]at hu;rcases hu with hu|hu
  ·simp only[Zna,Zg,Zh,Zl8]at hu;rcases hu with rfl|rfl|rfl|rfl<;>rfl
  exact ih u hu
theorem Bm:(Tryz.prog.info? 78).map (fun i=>(i.zero,i.size,i.bytes))=some (some (.agg #[.int .i64 0,.int .i64 0,.int .i64 0,.string ⟨#[]⟩]),4,40):=by kernel_rfl
theorem Zqs:Tryz.prog.underlying 39=some (.slice 78):=by kernel_rfl
noncomputable def Zys:Enc Cx where
 ty:=78
 sl:=39
 z:=4
 bytes:=40
 cells l:=Kv l
 app a b:=Dw a b
 len l:=Pi l
 one l:=Zsk l
 und:=Zqs
 i:=Classical.choose (Zm7 Bm)
 zero:=.agg #[.int .i64 0,.int .i64 0,.int .i64 0,.string ⟨#[]⟩]
 info:=(Yo (Zm7 Bm)).1
 hz:=(Yo (Zm7 Bm)).2.1
 hs:=(Yo (Zm7 Bm)).2.2.1
 hb:=(Yo (Zm7 Bm)).2.2.2
 hc:=rfl
 pos:=by omega
def N7(op:Int)(rs:List Rc):Int:=rs.foldl (fun c r=>c+Xn r.st op) 0
theorem Ld(op:Int):∀ (rs:List Rc) (c:Int),rs.foldl (fun c r=>c+Xn r.st op) c=c+N7 op rs
 | [],c=>by simp[N7]
 | r::rs,c=>by
  unfold N7;rw[Zje,Zje,Ld op rs,Ld op rs];omega
theorem Ztn(op:Int)(rs:List Rc)(r:Rc):N7 op (rs++[r])=N7 op rs+Xn r.st op:=by
 unfold N7;rw[Zko];rfl
theorem Sr(op:Int)(rs:List Rc)(r:Rc):N7 op (r::rs)=Xn r.st op+N7 op rs:=by
 unfold N7;rw[Zje,Ld,← N7];omega
structure Zwk(m:Vt):Prop where
 o0:1≤m.op
 o1:m.op≤7
 t1:Wx m.op=true→1≤m.ttl∧m.ttl≤1073741824
 t0:Wx m.op=false→m.ttl=0
 l0:1≤m.ns.length
 l1:m.ns.length≤16
 q:m.op=7→m.ns.length≤1
 srt:srt m.ns=true
 good:m.ns.all Q4=true
inductive K2 (m:Vt) (x:Shr):Int→Vt→Shr→Prop
 | idle:m.st=0→K2 m x 0 m x
 | bad (m':Vt):m.st=1→m'.st=7→m'.cl=m.cl→m'.i=m.i→m'.ns=[]→m'.ans.e≠0→K2 m x 3 m' x
 | req (m':Vt):m.st=1→m'.st=2→m'.cl=m.cl→m'.i=m.i→Zwk m'→K2 m x 1 m' x
 | block (n:Nm) (c:Nat):m.st=2→m.i=(c:Int)→m.ns[c]?=some n→0≤Zog (Wq x.ks n.k)→Zog (Wq x.ks n.k)≠m.cl→K2 m x 2 m x
 | lock (n:Nm) (c:Nat) (v:Value):m.st=2→m.i=(c:Int)→m.ns[c]?=some n→((Wq x.ks n.k).st=1→0≤(Wq x.ks n.k).ow→(Wq x.ks n.k).ow=m.cl)→K2 m x 1 (Ql m m.ns.length 3) {x with kv:=v,ks:=Jn x.ks n.k ⟨1,m.cl,⟨#[]⟩,0⟩}
 | read (n:Nm) (c:Nat) (v:Value):m.st=3→m.i=(c:Int)→m.ns[c]?=some n→K2 m x 1 (Ql {m with rv:=v,rs:=m.rs++[Wq x.rs n.k]} m.ns.length 4) x
 | stay:m.st=4→(Wn x.cp m.op m.cl m.ttl x.clock x.sum (m.ns.zip m.rs)).e≠0∨m.op=7→K2 m x 3 {m with ans:=Wn x.cp m.op m.cl m.ttl x.clock x.sum (m.ns.zip m.rs),st:=6} x
 | go:m.st=4→(Wn x.cp m.op m.cl m.ttl x.clock x.sum (m.ns.zip m.rs)).e=0→m.op≠7→K2 m x 3 {m with ans:=Wn x.cp m.op m.cl m.ttl x.clock x.sum (m.ns.zip m.rs),st:=5} {x with sum:=x.sum+N7 m.op m.rs}
 | write (n:Nm) (r:Rc) (c:Nat) (D:Int) (v:Value):m.st=5→m.i=(c:Int)→m.ns[c]?=some n→m.rs[c]?=some r→(0≤m.ans.tick+m.ttl→m.ans.tick+m.ttl≤4000000000→D=m.ans.tick+m.ttl)→K2 m x 1 (Ql m m.ns.length 6) {x with rv:=v,rs:=Jn x.rs n.k (V0 m.op m.cl D n r)}
 | free (n:Nm) (c:Nat) (v:Value):m.st=6→m.i=(c:Int)→m.ns[c]?=some n→K2 m x 1 (Ql m m.ns.length 7) {x with kv:=v,ks:=Jn x.ks n.k ⟨0,0,⟨#[]⟩,0⟩}
 | reply:m.st=7→K2 m x 4 {m with st:=0} x
theorem Lq(l:List Kp)(k:ByteArray)(r:Rc):(Jn l k r).length≤l.length+1:=by
 have:∀ (l:List Kp) d,(Wc k r d l).length≤l.length+1:=by
  intro l
  induction l with
  | nil=>intro d;cases d<;>simp[Wc]
  | cons p l ih =>
   intro d;rw[Wc];split
   ·have:=ih d;simp;omega
   split
   ·have h1:∀ l:List Kp,(Wc k r true l).length≤l.length:=by
     intro l
     induction l with
     | nil=>simp[Wc]
     | cons p l ih2 =>
      rw[Wc];split
      ·simp;omega
      simp;omega
    have:=h1 l;simp;omega
   have:=ih d;simp;omega
 exact this l _
structure Zwh(S:Nat→Prop)(T:Tbl)(mb xb:Nat)(m:Vt)(x:Shr)(w:World)(s:Int)(m':Vt)(x':Shr)(w':World):Prop where
 mach:Wg w' S T mb m'
 mok:MOk m'
 shr:Qm w' S xb x'
 chg:Chg (fun j=>j=mb∨j=xb) w w'
 xok:∀ t,XOk t x→XOk (t+1) x'
 live:m'.st≠0→m.st≠0
 par:m.st=1→s=3∨m'.st=2
 rel:K2 m x s m' x'
def Jx(S:Nat→Prop)(T:Tbl)(mb xb:Nat)(m:Vt)(x:Shr)(w:World)(e:Ending)(w':World):Prop :=
 ∃ (s:Int) (m':Vt) (x':Shr),e=.returned (.int .i64 s)∧Zwh S T mb xb m x w s m' x' w'
structure K0(S:Nat→Prop)(T:Tbl)(mb xb:Nat)(m:Vt)(x:Shr)(w:World):Prop where
 mach:Wg w S T mb m
 mok:MOk m
 shr:Qm w S xb x
 ne:mb≠xb
 sm:¬ S mb
 sx:¬ S xb
 new:∀ k,w.heap.size≤k→S k
 tbl:Xl w S T
theorem Wg.c{w:World}{S:Nat→Prop}{T:Tbl}{b:Nat}{m:Vt}(h:Wg w S T b m)(j:Nat){v:Value}(hv:(machC T m)[j]?=some v):w.cell? ⟨b,j,none⟩=some v:=by
 rw[h.cells.at_ j (Zr.1 hv).1,hv]
theorem Qm.c{w:World}{S:Nat→Prop}{b:Nat}{x:Shr}(h:Qm w S b x)(j:Nat){v:Value}(hv:(Znk x)[j]?=some v):w.cell? ⟨b,j,none⟩=some v:=by
 rw[h.cells.at_ j (Zr.1 hv).1,hv]
theorem Wg.ext{w w':World}{S:Nat→Prop}{T:Tbl}{b:Nat}{m:Vt}(h:Wg w S T b m)(x:Ext w w'):Wg w' S T b m:=⟨h.cells.ext x,Rd.ext h.ns x,Rd.ext h.rs x⟩
theorem Qm.ext{w w':World}{S:Nat→Prop}{b:Nat}{x:Shr}(h:Qm w S b x)(e:Ext w w'):Qm w' S b x:=⟨h.cells.ext e,Rd.ext h.ks e,Rd.ext h.rs e⟩
theorem Wg.put{w:World}{S:Nat→Prop}{T:Tbl}{b:Nat}{m m':Vt}(h:Wg w S T b m)(hb:¬ S b){j:Nat}(hj:j<28){v:Value}(e:(machC T m).set j v=machC T m')(e1:m'.lv=m.lv)(e2:m'.ns=m.ns)(e3:m'.rv=m.rv)(e4:m'.rs=m.rs):Wg (w.setCell ⟨b,j,none⟩ v) S T b m' :=
 ⟨e▸h.cells.set (j:=j) hj v,by rw[e1,e2];exact RdE.far (E:=nmE) h.ns hb v,by rw[e3,e4];exact Rd.chg h.rs ((Chg.refl (· = b) w).setCell (p:=⟨b,j,none⟩) (.inl rfl) v) (fun _ hk e=>hb (e▸hk))⟩
theorem Qm.far{w:World}{S:Nat→Prop}{b c j:Nat}{x:Shr}(h:Qm w S b x)(hne:b≠c)(hc:¬ S c)(v:Value):Qm (w.setCell ⟨c,j,none⟩ v) S b x :=
 h.chg (U:=(· = c)) ((Chg.refl (· = c) w).setCell (p:=⟨c,j,none⟩) (.inl rfl) v) hne (fun _ hk e=>hc (e▸hk))
theorem Wg.far{w:World}{S:Nat→Prop}{T:Tbl}{b c j:Nat}{m:Vt}(h:Wg w S T b m)(hne:b≠c)(hc:¬ S c)(v:Value):Wg (w.setCell ⟨c,j,none⟩ v) S T b m :=
 h.chg (U:=(· = c)) ((Chg.refl (· = c) w).setCell (p:=⟨c,j,none⟩) (.inl rfl) v) hne (fun _ hk e=>hc (e▸hk))
theorem Ztq{S:Nat→Prop}(T:Tbl)(mb xb:Nat)(m:Vt)(x:Shr)(w:World)(h:K0 S T mb xb m x w)(hs:m.st=0):Calls Tryz.prog 115 #[.pointer (some ⟨mb,0,none⟩),.pointer (some ⟨xb,0,none⟩)] w (Jx S T mb xb m x w):=by
 have z13:w.cell? ⟨mb,13,none⟩=some (.int .i64 m.st):=h.mach.c 13 rfl;have H:=Y4 h;have Hs:=Y4 hs;rw[hs]at z13;clear h hs;go_enter Tryz.func115,Tryz.ntmps115;go_wp2_with fail;go_ret;exact⟨0,m,x,rfl,H.o.mach,H.o.mok,H.o.shr,Chg.refl _ _,fun t h=>h.up,fun h=>h,fun h=>by rw[Hs.o]at h;simp at h,.idle Hs.o⟩
theorem Zxa{S:Nat→Prop}(T:Tbl)(mb xb:Nat)(m:Vt)(x:Shr)(w:World)(h:K0 S T mb xb m x w)(hs:m.st=7):Calls Tryz.prog 115 #[.pointer (some ⟨mb,0,none⟩),.pointer (some ⟨xb,0,none⟩)] w (Jx S T mb xb m x w):=by
 have z13:w.cell? ⟨mb,13,none⟩=some (.int .i64 m.st):=h.mach.c 13 rfl;have fz:=h.mach.cells.fz;have H:=Y4 h;have Hs:=Y4 hs;rw[hs]at z13;clear h hs;go_enter Tryz.func115,Tryz.ntmps115;go_wp2_with fail;go_ret;exact⟨4,{m with st:=0},x,rfl,H.o.mach.put H.o.sm (by omega) rfl rfl rfl rfl rfl,⟨by simp,by simp,H.o.mok.c0,H.o.mok.c1,fun h=>by simp at h,fun h=>by simp at h,fun h=>by simp at h,fun h=>by simp at h,fun h=>by simp at h⟩,
  H.o.shr.far H.o.ne.symm H.o.sm _,(Chg.refl _ _).setCell (.inl (.inl rfl)) _,fun t h=>h.up,fun h=>by simp at h,fun h=>by rw[Hs.o]at h;simp at h,.reply Hs.o⟩
theorem J9:(Tryz.prog.info? 53).map (·.size)=some 8:=by kernel_rfl
theorem Wg.ans{w:World}{S:Nat→Prop}{T:Tbl}{b:Nat}{m:Vt}(h:Wg w S T b m)(hb:¬ S b)(R:Ac):Wg (w.setCells b 19 (Wb R)) S T b {m with ans:=R} :=
 ⟨h.cells.mid (o:=19) (by show 19+8≤28;omega) rfl,Rd.chg h.ns (Xi (S:=(· = b)) (.inl rfl) (Chg.refl (· = b) w)) (fun _ hk e=>hb (e▸hk)),Rd.chg h.rs (Xi (S:=(· = b)) (.inl rfl) (Chg.refl (· = b) w)) (fun _ hk e=>hb (e▸hk))⟩
theorem Zs6(st op:Int) : -1≤Xn st op∧Xn st op≤1:=by
 unfold Xn;split
 ·split<;>omega
 split
 ·split<;>omega
 omega
theorem Qm.sum{w:World}{S:Nat→Prop}{b:Nat}{x:Shr}(h:Qm w S b x)(hb:¬ S b)(u:Int):Qm (w.setCell ⟨b,3,none⟩ (.int .i64 u)) S b {x with sum:=u} :=
 ⟨h.cells.set (j:=3) (by show 3<6;omega) _,Rd.chg h.ks ((Chg.refl (· = b) w).setCell (p:=⟨b,3,none⟩) (.inl rfl) _) (fun _ hk e=>hb (e▸hk)),Rd.chg h.rs ((Chg.refl (· = b) w).setCell (p:=⟨b,3,none⟩) (.inl rfl) _) (fun _ hk e=>hb (e▸hk))⟩
theorem Zz4{α β:Type}:∀ (a:List α) (b:List β),a.length=b.length→(a.zip b).map Prod.fst=a∧(a.zip b).map Prod.snd=b
 | [],[],_=>⟨rfl,rfl⟩
 | x::a,y::b,h=>by
  obtain⟨h1,h2⟩:=Zz4 a b (by simpa using h);exact⟨by simp[h1],by simp[h2]⟩
 | [],_::_,h=>by simp at h
 | _::_,[],h=>by simp at h
theorem Tf(cap op client ttl now count:Int)(ps:List (Nm×Rc)):(Wn cap op client ttl now count ps).tick=now:=by
 unfold Wn;split
 ·rfl
 split<;>rfl
theorem Nz{S:Nat→Prop}{T:Tbl}{mb xb:Nat}{m:Vt}{x:Shr}{w w':World}{R:Ac}(h:K0 S T mb xb m x w)(hs:m.st=4)(hR:0≤R.tick)(hj:Wn x.cp m.op m.cl m.ttl x.clock x.sum (m.ns.zip m.rs)=R)(he:R.e≠0∨m.op=7)(hm:Wg w' S T mb {m with ans:=R,st:=6})(hx:Qm w' S xb x)(c:Chg (fun j=>j=mb∨j=xb) w w'):Zwh S T mb xb m x w 3 {m with ans:=R,st:=6} x w' :=
 ⟨hm,⟨by simp,by simp,h.mok.c0,⟨h.mok.c1.1,h.mok.c1.2.1,hR⟩,fun _ _=>h.mok.n0 (by omega) (by omega),fun h=>by simp at h,fun h=>by simp at h,fun _ h=>by simp at h,fun _ h=>by simp at h⟩,hx,c,fun _ h=>h.up,fun _=>by omega,fun h=>by omega,by subst hj;exact .stay hs he⟩
theorem I2{S:Nat→Prop}(T:Tbl)(mb xb:Nat)(m:Vt)(x:Shr)(w:World)(t:Nat)(hx:XOk t x)(ht:t≤500000)(h:K0 S T mb xb m x w)(hs:m.st=4):Calls Tryz.prog 115 #[.pointer (some ⟨mb,0,none⟩),.pointer (some ⟨xb,0,none⟩)] w (Jx S T mb xb m x w):=by
 have z13:w.cell? ⟨mb,13,none⟩=some (.int .i64 m.st):=h.mach.c 13 rfl;have m12:=lat (h.mach.c 12 rfl:w.cell? ⟨mb,12,none⟩=some (.int .i64 m.cl));have m15:=lat (h.mach.c 15 rfl:w.cell? ⟨mb,15,none⟩=some (.int .i64 m.op));have m16:=lat (h.mach.c 16 rfl:w.cell? ⟨mb,16,none⟩=some (.int .i64 m.ttl));have m17:=lat (h.mach.c 17 rfl:w.cell? ⟨mb,17,none⟩=some m.lv);have m18:=lat (h.mach.c 18 rfl:w.cell? ⟨mb,18,none⟩=some m.rv);have x0:=lat (h.shr.c 0 rfl:w.cell? ⟨xb,0,none⟩=some (.int .i64 x.cl));have x1:=lat (h.shr.c 1 rfl:w.cell? ⟨xb,1,none⟩=some (.int .i64 x.cp));have x2:=lat (h.shr.c 2 rfl:w.cell? ⟨xb,2,none⟩=some (.int .i64 x.clock));have x3:=lat (h.shr.c 3 rfl:w.cell? ⟨xb,3,none⟩=some (.int .i64 x.sum));rw[hs]at z13;obtain⟨hn1,hn16,_,_⟩:=h.mok.n0 (by omega) (by omega);have hlen:=h.mok.r4 (by omega) (by omega);obtain⟨ps,hps⟩:=gnX (m.ns.zip m.rs);obtain⟨hf,hd⟩:=Zz4 m.ns m.rs hlen.symm;rw[hps]at hf hd;have Hl0:=Y4 (show 1≤ps.length by rw[← Zq (f:=Prod.fst),hf];exact hn1);have Hl1:=Y4 (show ps.length≤16 by rw[← Zq (f:=Prod.fst),hf];exact hn16);have Hn0:=Y4 hx.c0;have Hn1:=Y4 hx.c1;have Hc0:=Y4 (show -10000000≤x.sum by have:=hx.m0;omega);have Hc1:=Y4 (show x.sum≤10000000 by have:=hx.m1;omega);have Hns:=Y4 (show Vo w S m.lv (ps.map Prod.fst) by rw[hf];exact h.mach.ns);have Hrs:=Y4 (show Jj w S m.rv (ps.map Prod.snd) by rw[hd];exact h.mach.rs);obtain⟨nl,hnl⟩:=gnX (m.ns.length);have hrl:m.rs.length=nl:=by omega
 obtain⟨Al,Cl,hlv⟩:=h.mach.ns.shape;obtain⟨_,Ar,Cr,hrv,hrl2,hrl3,_⟩:=id h.mach.rs;rw[hnl]at hlv hn16;rw[hrl]at hrv;rw[hlv]at m17 Hns;rw[hrv]at m18 Hrs;have Hrl:=Y4 hrl;have H:=Y4 h;have Hs:=Y4 hs;have Hlv:=Y4 hlv;have Hrv:=Y4 hrv;have Hlen:=Y4 hlen;have Hps:=Y4 hps;clear h hs hps hf hd hnl hrl hlen hlv hrv hx hn1 hrl2 hrl3;go_enter Tryz.func115,Tryz.ntmps115;go_upto_region 10 with fail;clear z13;refine Xf 34 37 (by kernel_rfl) (by omega) (by kernel_rfl) (by kernel_rfl) (by kernel_rfl) ?_;simp only[Z6,Z7,Z8,Z9];repeat((with_reducible refine Yu ?_);intro K hK;go_simp;first|((with_reducible refine hK _ ?_);clear hK K)|(apply Exists.intro;refine⟨fun _=>?_,hK _ ?_⟩;(go_at_call 72;exact Xy (Zy2 _ _ _ _ _ _ _ _ _ ps _ Hl0.o Hl1.o Hn0.o Hn1.o Hc0.o Hc1.o (Rd.ext Hns.o (⟨_,_,rfl⟩)) (Rd.ext Hrs.o (⟨_,_,rfl⟩))));clear hK K))
 (with_reducible refine Yt ?_)
 intro w9 hy9;obtain⟨R,hR⟩:=gnX (Wn x.cp m.op m.cl m.ttl x.clock x.sum ps);have HJ:=Y4 (show Wn x.cp m.op m.cl m.ttl x.clock x.sum (m.ns.zip m.rs)=R by rw[Hps.o];exact hR);have HRt:=Y4 (show 0≤R.tick by rw[← hR,Tf];exact Hn0.o);rw[hR];have hth:=(H.o.mach.cells.ext hy9).there (o:=19) (n:=8) (by show 19+8≤28;omega);have hone:(Wb R).toArray.all (·.oneCell')=true:=by simp[Wb,Value.oneCell']
 go_upto_region 11 with(refine Zjz rfl _ _ _ rfl mb 19 (Wb R).toArray rfl rfl hth (by rw[J9];rfl) hone ?_);have HM:=Y4 ((H.o.mach.ext hy9).ans H.o.sm R);have HX:=Y4 ((H.o.shr.ext hy9).chg (Xi (S:=(· = mb)) (b:=mb) (.inl rfl) (vs:=Wb R) (o:=19) (Chg.refl _ w9)) H.o.ne.symm (fun _ hk e=>H.o.sm (e▸hk)));have CC:=Y4 (Xi (S:=(fun j=>j=mb∨j=xb)) (b:=mb) (.inl (.inl rfl)) (vs:=Wb R) (o:=19) (hy9.chg _));obtain⟨W,hW⟩:=gnX (w9.setCells mb 19 (Wb R));rw[hW]at HM HX CC;rw[show w9.setCells mb 19 (Wb R).toArray.toList=W from hW];clear hW hth hone hy9 m12 m15 m16 m17 m18 x0 x1 x2 x3 hR;have c13:W.cell? ⟨mb,13,none⟩=some (.int .i64 m.st):=HM.o.c 13 rfl;have c19:W.cell? ⟨mb,19,none⟩=some (.int .i64 R.e):=HM.o.c 19 rfl;have c15:W.cell? ⟨mb,15,none⟩=some (.int .i64 m.op):=HM.o.c 15 rfl;have c18:W.cell? ⟨mb,18,none⟩=some (.slice Ar nl Cr):=by rw[← Hrv.o];exact HM.o.c 18 rfl
 have fz:=HM.o.cells.fz;have H6:=Y4 (HM.o.put (m':={m with ans:=R,st:=6}) H.o.sm (j:=13) (by omega) (v:=.int .i64 6) rfl rfl rfl rfl rfl);have X6:=Y4 (HX.o.far (j:=13) H.o.ne.symm H.o.sm (.int .i64 6));have C6:=Y4 (CC.o.setCell (p:=⟨mb,13,none⟩) (.inl (.inl rfl)) (.int .i64 6));cases e1:(R.e==0)
 ·have He:=Y4 (show R.e≠0∨m.op=7 from .inl (by simpa using e1));go_wp2_with fail;go_ret;exact⟨3,{m with ans:=R,st:=6},x,rfl,Nz H.o Hs.o HRt.o HJ.o He.o H6.o X6.o C6.o⟩
 cases e2:(m.op==7)
 rotate_left
 ·have He:=Y4 (show R.e≠0∨m.op=7 from .inr (by simpa using e2));go_wp2_with fail;go_ret;exact⟨3,{m with ans:=R,st:=6},x,rfl,Nz H.o Hs.o HRt.o HJ.o He.o H6.o X6.o C6.o⟩
 have HE0:=Y4 (show R.e=0 by simpa using e1);have HE7:=Y4 (show m.op≠7 by simpa using e2);have H5:=Y4 (H6.o.put (m':={m with ans:=R,st:=5}) H.o.sm (j:=13) (by omega) (v:=.int .i64 5) rfl rfl rfl rfl rfl);have X5:=Y4 (X6.o.far (j:=13) H.o.ne.symm H.o.sm (.int .i64 5));have C5:=Y4 (C6.o.setCell (p:=⟨mb,13,none⟩) (.inl (.inl rfl)) (.int .i64 5));clear H6 X6 C6;go_wp2_with fail;obtain⟨W5,hW5⟩:∃ W',(W.setCell ⟨mb,13,none⟩ (.int .i64 6)).setCell ⟨mb,13,none⟩ (.int .i64 5)=W':=⟨_,rfl⟩;rw[hW5]at H5 X5 C5;try rw[hW5]
 clear hW5 c13 c19 c15 c18 fz e1 e2 HM HX CC;go_loopw [86] (fun o wr=>∃ (j:Nat) (u:Int),j≤nl∧o=.int .i64 (j:Int)∧Wg wr S T mb {m with ans:=R,st:=5}∧Qm wr S xb {x with sum:=u}∧-(j:Int)≤u-x.sum∧u-x.sum≤j∧u=x.sum+N7 m.op (m.rs.take j)∧Chg (fun k=>k=mb∨k=xb) w wr) (fun o _=>nl-(intOf o).toNat);case atStart=>exact⟨0,x.sum,by omega,rfl,H5.o,X5.o,by omega,by omega,by simp[N7],C5.o⟩
 rename World=>wr
 obtain⟨j,u,hj,rfl,hM,hX,hu1,hu2,hu3,hC⟩:=hrel;have Hu3:=Y4 hu3;clear hu3;by_cases hjn:j<nl
 ·obtain⟨hd_j,i0_j,i1_j⟩:=LTl j nl;obtain⟨r,hr⟩:∃ r,m.rs[j]?=some r:=⟨m.rs[j]'(by rw[Hrl.o];exact hjn),Zz _⟩;obtain⟨g,o,c,hv,_,_,hg,r0,r1,r2,r3⟩:=Qq hM.rs hr;replace hv:m.rv=.slice (some ⟨g,o,none⟩) m.rs.length c:=hv;rw[Hrv.o,Hrl.o]at hv;simp only[Ye,Zls]at hv;obtain⟨rfl,rfl⟩:=hv;have Htk:=Y4 (take_at hr);obtain⟨rst,row,rnm,rdl⟩:=r;simp only at r0 r1 r2 r3;go_upto_region 17 with fail;have hxa:=(Yl wr).alloc (.cells #[.int .i64 rst,.int .i64 row,.string rnm,.int .i64 rdl] 51);have ha:=Xo.new wr #[.int .i64 rst,.int .i64 row,.string rnm,.int .i64 rdl] 51;obtain⟨W1,hW1⟩:=gnX (wr.alloc (.cells #[.int .i64 rst,.int .i64 row,.string rnm,.int .i64 rdl] 51));obtain⟨ab,hab⟩:=gnX (wr.heap.size);rw[hW1]at hxa ha;rw[hab]at ha;rw[hW1,hab];have k0:=lat (ha.at_ 0 (by simp));have k1:=lat (ha.at_ 1 (by simp));have k2:=lat (ha.at_ 2 (by simp));have k3:=lat (ha.at_ 3 (by simp));have M1:=Y4 (hM.ext hxa);have X1:=Y4 (hX.ext hxa);have C1:=Y4 (hC.trans (hxa.chg _));have x3:=lat (X1.o.c 3 rfl:W1.cell? ⟨xb,3,none⟩=some (.int .i64 u));have m15:=lat (M1.o.c 15 rfl:W1.cell? ⟨mb,15,none⟩=some (.int .i64 m.op));obtain⟨b1,b2⟩:=Zs6 rst m.op;have h0:=Hc0.o;have h1:=Hc1.o;obtain⟨U,hU⟩:=gnX (u+Xn rst m.op);have rU:IntKind.i64.wrap (u+Xn rst m.op)=U:=by rw[Yp _ (by omega)];exact hU
  have HU1:=Y4 (show -((j+1:Nat):Int)≤U-x.sum by omega);have HU2:=Y4 (show U-x.sum≤((j+1:Nat):Int) by omega);have HU3:=Y4 (show U=x.sum+N7 m.op (m.rs.take (j+1)) by rw[Htk.o,Ztn,← hU,Hu3.o];simp only;omega);clear hM hX hC hxa ha hW1 hab r0 r1 r2 r3 hr hg hU b1 b2 h0 h1 hu1 hu2;refine Xf 11 14 (by kernel_rfl) (by omega) (by kernel_rfl) (by kernel_rfl) (by kernel_rfl) ?_;simp only[Z6,Z7,Z8,Z9];repeat((with_reducible refine Yu ?_);intro K hK;go_simp;first|((with_reducible refine hK _ ?_);clear hK K)|(apply Exists.intro;refine⟨fun _=>?_,hK _ ?_⟩;(go_at_call 103;exact Xy (Nh _ _ _ _ _ _));clear hK K))
  (with_reducible refine Yt ?_)
  intro w2 hy2;have X2:=Y4 (X1.o.ext hy2);have c3:w2.cell? ⟨xb,3,none⟩=some (.int .i64 u):=X2.o.c 3 rfl;have fz:=X2.o.cells.fz;have M3:=Y4 ((M1.o.ext hy2).far H.o.ne H.o.sx (j:=3) (.int .i64 U));have X3:=Y4 (X2.o.sum H.o.sx U);have C3:=Y4 ((C1.o.trans (hy2.chg _)).setCell (p:=⟨xb,3,none⟩) (.inl (.inr rfl)) (.int .i64 U));clear hy2 k0 k1 k2 k3 x3 m15 rU X1 M1 C1 X2;go_wp2_with fail;go_roundw;case rel=>exact⟨j+1,by omega,by go_num,M3.o,U,X3.o,HU1.o,HU2.o,HU3.o,C3.o⟩
  (simp[intOf];omega)
 have hd_j:=GEl j nl;obtain rfl:j=nl:=by omega
 have HM:=Y4 hM;have HX:=Y4 hX;have HC:=Y4 hC;clear hM hX hC;go_wp2_with fail;go_ret;have hu:u=x.sum+N7 m.op m.rs:=by rw[Hu3.o,Zm (by rw[Hrl.o];exact Yn _)]
 exact⟨3,{m with ans:=R,st:=5},{x with sum:=u},rfl,HM.o,⟨by simp,by simp,H.o.mok.c0,⟨H.o.mok.c1.1,H.o.mok.c1.2.1,HRt.o⟩,fun _ _=>H.o.mok.n0 (by rw[Hs.o];omega) (by rw[Hs.o];omega),fun h=>by simp at h,fun h=>by simp at h,fun _ _=>Hlen.o,fun _ h=>by simp at h⟩,
  HX.o,HC.o,fun t h=>⟨h.c0,h.c1,by have:=h.m0;simp only;omega,by have:=h.m1;simp only;omega,by have:=h.k;simp only;omega,by have:=h.r;simp only;omega⟩,fun _=>by rw[Hs.o];omega,fun h=>by rw[Hs.o]at h;omega,by
   have h0:=HE0.o;have hj:=HJ.o;subst hj hu;exact .go Hs.o h0 HE7.o⟩
end Go.Proofs.YtnbclgbicnpmnaaGreat
