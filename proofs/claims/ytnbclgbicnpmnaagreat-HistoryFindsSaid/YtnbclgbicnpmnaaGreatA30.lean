/- Lemmas of this claim: Dk3, Ne, Nf. Conditions: as named. -/
import Derived.Test.YtnbclgbicnpmnaaGreatA15
import Derived.Test.YtnbclgbicnpmnaaGreatA16
namespace Go.Proofs.YtnbclgbicnpmnaaGreat
open Go.RowKit Go.Sort Tryz
set_option maxHeartbeats 0
set_option maxRecDepth 100000
set_option linter.all false
section
theorem Ks{P:Program}{ops:Array Oper}{op:Oper}{a:Act}{w:World}{K:Act→World→Prop}{Q:Exit→Act→World→Prop}{F:Prop}(hgd:op.guard=none)(ty:TypeId)(x y:Operand)(ho:op.op=.store ty x y)
 (b o:Nat) (cells:Array Value) (hx:a.eval x=.pointer (some ⟨b,o,none⟩)) (hy:a.eval y=.agg cells) (ht:w.there b o cells.size) (hi:(P.info? ty).map (·.size)=some cells.size) (h1:cells.all (·.oneCell')=true)
 (h:K (a.put op.dst undef) (w.setCells b o cells.toList)):if Region.wanted op (yielded ops a.tmps)=true then op.wp P a w K Q else F:=by
 rw[Zjx (by simp[Region.wanted,hgd])];exact wp_store_mid ty x y ho b o cells hx hy ht hi h1 h
theorem Ed{w:World}{S S':Nat→Prop}{t:Tbl}(h:Xk w S t)(hS:∀ k,S k→k<w.heap.size→S' k):Xk w S' t :=
 ⟨Rd.mono h.cat hS,Rd.mono h.cls hS,Rd.mono h.joi hS,Rd.mono h.bid hS,Rd.mono h.scr hS,Rd.mono h.sta hS,Rd.mono h.ign hS,⟨Rd.mono h.ext.1 hS,fun m hm=>Rd.mono (h.ext.2 m hm) hS⟩,⟨Rd.mono h.map.1 hS,fun m hm=>Rd.mono (h.map.2 m hm) hS⟩,⟨Rd.mono h.dec.1 hS,fun m hm=>Rd.mono (h.dec.2 m hm) hS⟩,Rd.mono h.exc hS,⟨Rd.mono h.pro.1 hS,fun m hm=>Rd.mono (h.pro.2 m hm) hS⟩⟩
def Zxu:List Value→Nat→List Value→List Value
 | xs,_,[]=>xs
 | xs,p,v::r=>Zxu (xs.set p v) (p+1) r
theorem Zxt:∀ (vs a b c:List Value) (f:Nat),f+vs.length≤b.length→Zxu (a++(b++c)) (a.length+f) vs=a++(Zxu b f vs++c)
 | [],_,_,_,_,_=>rfl
 | v::r,a,b,c,f,h=>by
  simp only[Zl]at h;rw[Zxu,Zxu,← Zxt r a (b.set f v) c (f+1) (by rw[Zf];omega),Zgl,Zk9 (by omega),Zg6,Zgl,Zjx (by omega),Zid]
theorem Iv:∀ (vs b:List Value) (f:Nat),f+vs.length≤b.length→Zxu b f vs=b.take f++(vs++b.drop (f+vs.length))
 | [],b,f,_=>by simp[Zxu]
 | v::r,b,f,h=>by
  simp only[Zl]at h;have hl:(b.take f).length=f:=by simp;omega
  rw[Zxu,Iv r _ _ (by rw[Zf];omega)];have e1:(b.set f v).take (f+1)=b.take f++[v]:=by
   rw[Za,List.take_set_of_le (Yn f),Zc (by omega)];rfl
  have e2:(b.set f v).drop (f+1+r.length)=b.drop (f+(v::r).length):=by
   rw[List.drop_set_of_lt (by omega)];congr 1;simp only[Zl];omega
  rw[e1,e2,List.append_assoc];rfl
theorem Ms{B z g n c m:Nat}{t:TypeId}:∀ {vs:List Value} {w:World} {p:Nat} {xs:List Value},w.ownsRow B t z (.slice (some ⟨g,0,none⟩) n c) m xs→(w.setCells g p vs).ownsRow B t z (.slice (some ⟨g,0,none⟩) n c) m (Zxu xs p vs)
 | [],_,_,_,h=>h
 | v::r,_,p,_,h=>Ms (vs:=r) (Zpb h p v)
theorem Te{l:List Opn}{i f:Nat}{o o':Opn}{vs:List Value}(h:l[i]?=some o)(hf:f+vs.length≤23)(he:opC o'=(opC o).take f++(vs++(opC o).drop (f+vs.length))):Zxu (Gj l) (i*23+f) vs=Gj (l.set i o'):=by
 have hi:=(Zr.1 h).1;have ho:l[i]=o:=(Zr.1 h).2;have e0:l=l.take i++([o]++l.drop (i+1)):=by rw[← ho];simp
 have e1:l.set i o'=l.take i++([o']++l.drop (i+1)):=by rw[Zh8,Zjx hi];rfl
 have el:(Gj (l.take i)).length=i*23:=by rw[En,Zp];congr 1;omega
 have e2:Gj l=Gj (l.take i)++(opC o++Gj (l.drop (i+1))):=by
  conv=>lhs;rw[e0]
  rw[Q8,Q8];simp[Gj]
 rw[e1,Q8,Q8,e2,← el,Zxt vs _ _ _ f (by rw[Kv];exact hf),Iv vs _ f (by rw[Kv];exact hf),← he];simp[Gj]
theorem Wt.ne{w:World}{U:Nat→Prop}{T:Tbl}{b B:Nat}{d:Dk}(h:Wt w U T b B d):b≠d.xb∧b≠d.gb∧b≠d.gl∧d.xb≠d.gb∧d.xb≠d.gl∧d.gb≠d.gl∧∀ p∈d.ms,p.1≠b∧p.1≠d.xb∧p.1≠d.gb∧p.1≠d.gl:=by
 have d0:=Zja.1 h.dis;have d1:=Zja.1 d0.2;have d2:=Zja.1 d1.2;have d3:=Zja.1 d2.2;simp only[Zg,not_or]at d0 d1 d2 d3;refine⟨d0.1.1,d0.1.2.1,d0.1.2.2.1,d1.1.1,d1.1.2.1,d2.1.1,fun p hp=>?_⟩;have hm:p.1∈d.ms.map Prod.fst:=Zjs.2 ⟨_,hp,rfl⟩;exact⟨fun e=>d0.1.2.2.2 (e▸hm),fun e=>d1.1.2.2 (e▸hm),fun e=>d2.1.2 (e▸hm),fun e=>d3.1 (e▸hm)⟩
theorem Wt.nov{w:World}{U:Nat→Prop}{T:Tbl}{b B:Nat}{d:Dk}(h:Wt w U T b B d){g:Nat}(hg:d.ov.ownBlock=some g):b≠g∧d.xb≠g∧d.gb≠g∧d.gl≠g∧∀ p∈d.ms,p.1≠g:=by
 have:=h.dio g hg;simp only[Zg,not_or]at this;obtain⟨h1,h2,h3,h4,h5⟩:=this;exact⟨fun e=>h1 e.symm,fun e=>h2 e.symm,fun e=>h3 e.symm,fun e=>h4 e.symm,fun p hp e=>h5 (Zjs.2 ⟨p,hp,e⟩)⟩
theorem Wt.ext{w w':World}{U:Nat→Prop}{T:Tbl}{b B:Nat}{d:Dk}(h:Wt w U T b B d)(x:Ext w w'):Wt w' U T b B d where
 cells:=h.cells.ext x
 hU:=fun k hk=>⟨(h.hU k hk).1,Zk8 (h.hU k hk).2 x.size⟩
 ub:=h.ub
 ux:=h.ux
 ugb:=h.ugb
 ugl:=h.ugl
 um:=h.um
 uo:=h.uo
 dis:=h.dis
 dio:=h.dio
 tbl:=h.tbl.up x
 shr:=⟨h.shr.cells.ext x,Rd.ext h.shr.ks x,Rd.ext h.shr.rs x⟩
 xok:=h.xok
 ptr:=Rd.ext h.ptr x
 mach:=fun p hp=>⟨⟨(h.mach p hp).1.cells.ext x,Rd.ext (h.mach p hp).1.ns x,Rd.ext (h.mach p hp).1.rs x⟩,(h.mach p hp).2⟩
 box:=h.box.ext x
 boxes:=fun j s l h1 h2=>⟨Rd.ext (h.boxes j s l h1 h2).1 x,(h.boxes j s l h1 h2).2⟩
 lb:=h.lb
 lbs:=h.lbs
 ll:=h.ll
 lm:=h.lm
 own:=h.own.ext x
 nms:=fun o ho=>Rd.ext (h.nms o ho) x
 lo:=h.lo
 n16:=h.n16
 lown:=h.lown.ext x
theorem Wt.c{w:World}{U:Nat→Prop}{T:Tbl}{b B:Nat}{d:Dk}(h:Wt w U T b B d)(j:Nat){v:Value}(hv:(Zwx d)[j]?=some v):w.cell? ⟨b,j,none⟩=some v:=by
 rw[h.cells.at_ j (Zr.1 hv).1,hv]
section
variable {w:World} {U:Nat→Prop} {T:Tbl} {b B:Nat} {d:Dk}
theorem Wt.setOp(h:Wt w U T b B d){g n c z f:Nat}{o o':OpS}{vs:List Value}(hv:d.ov=.slice (some ⟨g,0,none⟩) n c)(hz:d.ops[z]?=some o)(hf:f+vs.length≤23)(he:opC o'.1=(opC o.1).take f++(vs++(opC o.1).drop (f+vs.length)))
 (hn:Vw w (fun k=>¬ U k) o'.1.nv o'.1.ns) (h16:o'.1.ns.length≤16∧I5 o'.1):Wt (w.setCells g (z*23+f) vs) U T b B {d with ops:=d.ops.set z o' }:=by
 have c:Chg (· = g) w (w.setCells g (z*23+f) vs):=Xl (S:=(· = g)) (.inl rfl) (Chg.refl _ _);have hob:d.ov.ownBlock=some g:=by rw[hv];rfl
 have hug:=h.uo g hob;obtain⟨n1,n2,n3,n4,n5⟩:=h.nov hob;have hS:∀ j,¬ U j→¬ j=g:=fun j hj e=>hj (e▸hug)
 exact {
  cells:=h.cells.chg c n1
  hU:=fun k hk=>⟨(h.hU k hk).1,Zk8 (h.hU k hk).2 c.size⟩
  ub:=h.ub,ux:=h.ux,ugb:=h.ugb,ugl:=h.ugl,um:=h.um,uo:=h.uo,dis:=h.dis,dio:=h.dio
  tbl:=h.tbl.chg c hS
  shr:=h.shr.chg c n2 hS
  xok:=h.xok
  ptr:=Rd.chg h.ptr c hS
  mach:=fun p hp=>⟨(h.mach p hp).1.chg c (n5 p hp) hS,(h.mach p hp).2⟩
  box:=h.box.chg c (by intro j hj e;simp only[Dk.bv,Value.ownBlock,Yd]at hj;exact n3 (hj.trans e))
  boxes:=fun j s l h1 h2=>⟨Rd.chg (h.boxes j s l h1 h2).1 c hS,(h.boxes j s l h1 h2).2⟩
  lb:=h.lb,lbs:=h.lbs,ll:=h.ll,lm:=h.lm
  own:=by
   have h0:=h.own;unfold Own at h0⊢;rw[hv]at h0;simp only[hv,Zf];have h1:=Ms (vs:=vs) (p:=z*23+f) h0;have e:Zxu (opE.cells d.ops) (z*23+f) vs=opE.cells (d.ops.set z o'):=by
    show Zxu (Gj (d.ops.map Subtype.val)) (z*23+f) vs=Gj ((d.ops.set z o').map Subtype.val);rw[Te (o:=o.1) (o':=o'.1) (by rw[Zn,hz];rfl) hf he,Zi4]
   rw[e]at h1;exact h1
  nms:=fun q hq=>by
   rcases Zij hq with h1|rfl
   ·exact Rd.chg (h.nms q h1) c hS
   exact Rd.chg hn c hS
  lo:=by rw[Zf];exact h.lo
  n16:=fun q hq=>by
   rcases Zij hq with h1|rfl
   ·exact h.n16 q h1
   exact h16
  lown:=h.lown.chg c (by intro j hj e;simp only[Dk.lv,Value.ownBlock,Yd]at hj;exact n4 (hj.trans e))}
theorem Wt.setBox(h:Wt w U T b B d){k:Nat}(hk:k<d.ms.length)(s:Sl)(l:List ByteArray)(hr:RdE Jr w (fun k=>¬ U k) s.v l)(hl:l.length≤8) :
 Wt (w.setCell ⟨d.gb,k,none⟩ s.v) U T b B {d with bx:=d.bx.set k s,bs_:=d.bs_.set k l}:=by
 have c:Chg (· = d.gb) w (w.setCell ⟨d.gb,k,none⟩ s.v):=(Chg.refl (· = d.gb) w).setCell (p:=⟨d.gb,k,none⟩) (.inl rfl) _;obtain⟨n1,n2,n3,n4,n5,n6,n7⟩:=h.ne;have hS:∀ j,¬ U j→¬ j=d.gb:=fun j hj e=>hj (e▸h.ugb)
 exact {
  cells:=by
   have:=h.cells.chg c n2;unfold Zwx Dk.bv at this⊢;simp only[Zf];exact this
  hU:=fun k hk=>⟨(h.hU k hk).1,Zk8 (h.hU k hk).2 c.size⟩
  ub:=h.ub,ux:=h.ux,ugb:=h.ugb,ugl:=h.ugl,um:=h.um,uo:=h.uo,dis:=h.dis,dio:=h.dio
  tbl:=h.tbl.chg c hS
  shr:=h.shr.chg c n4 hS
  xok:=h.xok
  ptr:=Rd.chg h.ptr c hS
  mach:=fun p hp=>⟨(h.mach p hp).1.chg c (n7 p hp).2.2.1 hS,(h.mach p hp).2⟩
  box:=by
   have h1:=Own.put (E:=ssE) h.box rfl (i:=k) (by rw[h.lb];exact hk) s (u:=s.v) rfl;show Own ssE _ B (.slice (some ⟨d.gb,0,none⟩) (d.bx.set k s).length d.cb) _;rw[Zf];exact h1
  boxes:=fun j s' l' h1 h2=>by
   by_cases e:k=j
   ·subst e;rw[Zc (by rw[h.lb];exact hk)]at h1;rw[Zc (by rw[h.lbs];exact hk)]at h2;obtain rfl:=Zjy h1;obtain rfl:=Zjy h2;exact⟨Rd.chg hr c hS,hl⟩
   rw[Zb e]at h1 h2;exact⟨Rd.chg (h.boxes j s' l' h1 h2).1 c hS,(h.boxes j s' l' h1 h2).2⟩
  lb:=by rw[Zf];exact h.lb
  lbs:=by rw[Zf];exact h.lbs
  ll:=h.ll,lm:=h.lm
  own:=h.own.chg c (fun j hj e=>(h.nov hj).2.2.1 e.symm)
  nms:=fun q hq=>Rd.chg (h.nms q hq) c hS
  lo:=h.lo,n16:=h.n16
  lown:=h.lown.chg c (by intro j hj e;simp only[Dk.lv,Value.ownBlock,Yd]at hj;exact n6 (hj.trans e).symm)}
theorem Wt.setLast(h:Wt w U T b B d){k:Nat}(hk:k<d.ms.length)(z:Int):Wt (w.setCell ⟨d.gl,k,none⟩ (.int .i64 z)) U T b B {d with last:=d.last.set k z}:=by
 have c:Chg (· = d.gl) w (w.setCell ⟨d.gl,k,none⟩ (.int .i64 z)):=(Chg.refl (· = d.gl) w).setCell (p:=⟨d.gl,k,none⟩) (.inl rfl) _;obtain⟨n1,n2,n3,n4,n5,n6,n7⟩:=h.ne;have hS:∀ j,¬ U j→¬ j=d.gl:=fun j hj e=>hj (e▸h.ugl)
 exact {
  cells:=by
   have:=h.cells.chg c n3;unfold Zwx Dk.lv at this⊢;simp only[Zf];exact this
  hU:=fun k hk=>⟨(h.hU k hk).1,Zk8 (h.hU k hk).2 c.size⟩
  ub:=h.ub,ux:=h.ux,ugb:=h.ugb,ugl:=h.ugl,um:=h.um,uo:=h.uo,dis:=h.dis,dio:=h.dio
  tbl:=h.tbl.chg c hS
  shr:=h.shr.chg c n5 hS
  xok:=h.xok
  ptr:=Rd.chg h.ptr c hS
  mach:=fun p hp=>⟨(h.mach p hp).1.chg c (n7 p hp).2.2.2 hS,(h.mach p hp).2⟩
  box:=h.box.chg c (by intro j hj e;simp only[Dk.bv,Value.ownBlock,Yd]at hj;exact n6 (hj.trans e))
  boxes:=fun j s l h1 h2=>⟨Rd.chg (h.boxes j s l h1 h2).1 c hS,(h.boxes j s l h1 h2).2⟩
  lb:=h.lb,lbs:=h.lbs
  ll:=by rw[Zf];exact h.ll
  lm:=h.lm
  own:=h.own.chg c (fun j hj e=>(h.nov hj).2.2.2.1 e.symm)
  nms:=fun q hq=>Rd.chg (h.nms q hq) c hS
  lo:=h.lo,n16:=h.n16
  lown:=by
   have h1:=Own.put (E:=Wb) h.lown rfl (i:=k) (by rw[h.ll];exact hk) z (u:=.int .i64 z) rfl;show Own Wb _ B (.slice (some ⟨d.gl,0,none⟩) (d.last.set k z).length d.cl) _;rw[Zf];exact h1}
theorem Wt.setT(h:Wt w U T b B d)(t:Nat):Wt (w.setCell ⟨b,5,none⟩ (.int .i64 (t:Int))) U T b B {d with t:=t}:=by
 have c:Chg (· = b) w (w.setCell ⟨b,5,none⟩ (.int .i64 (t:Int))):=(Chg.refl (· = b) w).setCell (p:=⟨b,5,none⟩) (.inl rfl) _;obtain⟨n1,n2,n3,n4,n5,n6,n7⟩:=h.ne;have hS:∀ j,¬ U j→¬ j=b:=fun j hj e=>hj (e▸h.ub)
 exact {
  cells:=h.cells.set (j:=5) (by show 5<6;omega) _
  hU:=fun k hk=>⟨(h.hU k hk).1,Zk8 (h.hU k hk).2 c.size⟩
  ub:=h.ub,ux:=h.ux,ugb:=h.ugb,ugl:=h.ugl,um:=h.um,uo:=h.uo,dis:=h.dis,dio:=h.dio
  tbl:=h.tbl.chg c hS
  shr:=h.shr.chg c n1.symm hS
  xok:=h.xok
  ptr:=Rd.chg h.ptr c hS
  mach:=fun p hp=>⟨(h.mach p hp).1.chg c (n7 p hp).1 hS,(h.mach p hp).2⟩
  box:=h.box.chg c (by intro j hj e;simp only[Dk.bv,Value.ownBlock,Yd]at hj;exact n2 (hj.trans e).symm)
  boxes:=fun j s l h1 h2=>⟨Rd.chg (h.boxes j s l h1 h2).1 c hS,(h.boxes j s l h1 h2).2⟩
  lb:=h.lb,lbs:=h.lbs,ll:=h.ll,lm:=h.lm
  own:=h.own.chg c (fun j hj e=>(h.nov hj).1 e.symm)
  nms:=fun q hq=>Rd.chg (h.nms q hq) c hS
  lo:=h.lo,n16:=h.n16
  lown:=h.lown.chg c (by intro j hj e;simp only[Dk.lv,Value.ownBlock,Yd]at hj;exact n3 (hj.trans e).symm)}
theorem Wt.addOp(h:Wt w U T b B d){w':World}{o:OpS}{A:Option Addr}{n c:Nat}(hg:Grew opE w B d.ov (d.ops++[o]) A n c w')(hlen:d.ops.length<4096)(hn:o.1.ns=[])(hv:o.1.nv=.slice none 0 0)(hf:I5 o.1) :
 Wt (w'.setCell ⟨b,3,none⟩ (.slice A n c)) (fun j=>U j∨(Value.slice A n c).ownBlock=some j) T b B {d with ops:=d.ops++[o],ov:=.slice A n c}:=by
 have cg:=hg.chg;have c0:Chg (fun j=>d.ov.ownBlock=some j∨j=b) w (w'.setCell ⟨b,3,none⟩ (.slice A n c)):=(cg.mono fun _ _ e=>.inl e).setCell (p:=⟨b,3,none⟩) (.inl (.inr rfl)) _;obtain⟨n1,n2,n3,n4,n5,n6,n7⟩:=h.ne;have ho:∀ j,(Value.slice A n c).ownBlock=some j→d.ov.ownBlock=some j∨j=w.heap.size:=fun j hj=>by
  rcases hg.at_ with e|e
  ·exact .inl (e▸hj)
  rw[e]at hj;exact .inr (Zjy hj).symm
 have hUn:∀ j,U j→j≠w.heap.size:=fun j hj=>Zgs (h.hU j hj).2
 have hS:∀ j,¬ U j→¬ (d.ov.ownBlock=some j∨j=b):=fun j hj e=>by
  rcases e with e|e
  ·exact hj (h.uo j e)
  exact hj (e▸h.ub)
 have hM:∀ j,¬ U j→j<w.heap.size→¬ (U j∨(Value.slice A n c).ownBlock=some j):=fun j hj hl e=>by
  rcases e with e|e
  ·exact hj e
  rcases ho j e with e|e
  ·exact hj (h.uo j e)
  omega
 have mv:∀ {z:Nat} {v:Value} {k:Nat} {xs:List Value},Rd w (fun j=>¬ U j) z v k xs→Rd (w'.setCell ⟨b,3,none⟩ (.slice A n c)) (fun j=>¬ (U j∨(Value.slice A n c).ownBlock=some j)) z v k xs:=fun {z v k xs} hr=>by
  have h1:Rd w (fun j=>¬ U j∧¬ (U j∨(Value.slice A n c).ownBlock=some j)) z v k xs:=Rd.mono hr fun j hj hl=>⟨hj,hM j hj hl⟩
  exact Rd.mono (Rd.chg h1 c0 fun j hj=>hS j hj.1) fun j hj _=>hj.2
 have hsz:=c0.size;have nb:∀ j,(d.ov.ownBlock=some j∨j=b)→d.xb≠j∧d.gb≠j∧d.gl≠j∧∀ p∈d.ms,p.1≠j:=fun j e=>by
  rcases e with e|rfl
  ·have:=h.nov e;exact⟨this.2.1,this.2.2.1,this.2.2.2.1,this.2.2.2.2⟩
  exact⟨n1.symm,n2.symm,n3.symm,fun p hp=>(n7 p hp).1⟩
 have hsub:∀ {q:Nat},U q→q<w.heap.size:=fun hq=>(h.hU _ hq).2
 exact {
  cells:=by
   have hc1:Xp w' b (Zwx d):=h.cells.chg cg fun e=>(h.nov e).1 rfl
   have:=hc1.set (j:=3) (by show 3<6;omega) (.slice A n c);exact this
  hU:=fun k hk=>by
   rcases hk with hk|hk
   ·exact⟨(h.hU k hk).1,Zk8 (h.hU k hk).2 hsz⟩
   have:=hg.own.lt k hk;refine⟨this.1,Zk8 this.2 ?_⟩;exact((Chg.refl (· = b) w').setCell (p:=⟨b,3,none⟩) (.inl rfl) (.slice A n c)).size
  ub:=.inl h.ub,ux:=.inl h.ux,ugb:=.inl h.ugb,ugl:=.inl h.ugl
  um:=fun p hp=>.inl (h.um p hp)
  uo:=fun k hk=>.inr hk
  dis:=h.dis
  dio:=fun k hk=>by
   rcases ho k hk with e|rfl
   ·exact h.dio k e
   intro hm;simp only[Zg]at hm;rcases hm with e|e|e|e|e
   ·exact hUn _ h.ub e.symm
   ·exact hUn _ h.ux e.symm
   ·exact hUn _ h.ugb e.symm
   ·exact hUn _ h.ugl e.symm
   obtain⟨p,hp,e⟩:=Zjs.1 e;exact hUn _ (h.um p hp) e
  tbl:=by
   have h1:=Ed h.tbl (fun j hj hl=>(⟨hj,hM j hj hl⟩:¬ U j∧¬ (U j∨(Value.slice A n c).ownBlock=some j)));exact Ed (h1.chg c0 fun j hj=>hS j hj.1) fun j hj _=>hj.2
  shr:=⟨h.shr.cells.chg c0 (fun e=>(nb _ e).1 rfl),mv h.shr.ks,mv h.shr.rs⟩
  xok:=h.xok
  ptr:=mv h.ptr
  mach:=fun p hp=>⟨⟨(h.mach p hp).1.cells.chg c0 (fun e=>(nb _ e).2.2.2 p hp rfl),mv (h.mach p hp).1.ns,mv (h.mach p hp).1.rs⟩,(h.mach p hp).2⟩
  box:=h.box.chg c0 (by intro j hj e;simp only[Dk.bv,Value.ownBlock,Yd]at hj;exact(nb _ e).2.1 hj)
  boxes:=fun j s l h1 h2=>⟨mv (h.boxes j s l h1 h2).1,(h.boxes j s l h1 h2).2⟩
  lb:=h.lb,lbs:=h.lbs,ll:=h.ll,lm:=h.lm
  own:=hg.own.far (by
   intro e;rcases ho b e with e|e
   ·exact(h.nov e).1 rfl
   exact hUn _ h.ub e) _
  nms:=fun q hq=>by
   rcases Zj.1 hq with hq|hq
   ·exact mv (h.nms q hq)
   rw[Zi.1 hq,hn,hv];exact Rd.nil _ _ _
  lo:=by rw[Zs];show _+1≤_;omega
  n16:=fun q hq=>by
   rcases Zj.1 hq with hq|hq
   ·exact h.n16 q hq
   rw[Zi.1 hq];exact⟨by rw[hn];simp,hf⟩
  lown:=h.lown.chg c0 (by intro j hj e;simp only[Dk.lv,Value.ownBlock,Yd]at hj;exact(nb _ e).2.2.1 hj)}
end
end
section
def Mc(n:Nat):Array Value:=madeCells #[.slice none 0 0] n
theorem Po(n:Nat):(Mc n).toList=(List.replicate n (⟨none,0,0⟩:Sl)).map Sl.v:=by
 unfold Mc madeCells;apply Zfy
 ·simp
 intro i h1 h2;simp[Nat.mod_one,Sl.v]
theorem Zpq(n:Nat)(hn:n≤4096)(w:World):(Instr.makeSlice 143 (.int .i64 (n:Int)) (.int .i64 (n:Int))).run prog w=.ok (.slice (some ⟨w.heap.size,0,none⟩) n n) (w.alloc (.cells (Mc n) 24)):=by
 obtain⟨i0,hi,hz0,hz1,hz2⟩:=Zju Dm;have h:=run_make w 143 24 i0 _ Zo9 hi hz0 .i64 .i64 n n (by omega) (by omega) (by rw[hz2];omega) (by omega);simp only[Zg0,hz1,Zgk]at h;exact h
theorem Zma(w:World)(n:Nat)(hn:n≤4096):Own ssE (w.alloc (.cells (Mc n) 24)) w.heap.size (.slice (some ⟨w.heap.size,0,none⟩) n n) (List.replicate n ⟨none,0,0⟩):=by
 refine⟨by rw[ssE.len],.inr ⟨w.heap.size,n,Mc n,by rw[Z2],Yn _,Zjc w _,by rw[Z2];exact Yn _,by unfold maxLen;omega,?_,?_⟩⟩
 ·rw[← Zh3,Po];simp[ssE]
 rw[Po];show _=(List.replicate n (⟨none,0,0⟩:Sl)).map Sl.v;rw[Zm (by simp[ssE])]
structure Ot(w0 w:World)(T:Tbl)(b xb gb:Nat)(cp:Int)(n k j:Nat)(mv lv:Value)(ms:List (Nat×Wc)):Prop where
 ext:Ext w0 w
 cells:Xp w b [.pointer (some ⟨xb,0,none⟩),mv,.slice (some ⟨gb,0,none⟩) n n,.slice none 0 0,lv,.int .i64 0]
 box:Own ssE w w0.heap.size (.slice (some ⟨gb,0,none⟩) n n) (List.replicate n ⟨none,0,0⟩)
 shr:Xp w xb (Zlg (Zv1 n cp))
 mOwn:Own Zp2 w gb mv (ms.map Prod.fst)
 lOwn:Own Wb w gb lv (List.replicate j (-1))
 len:ms.length=k
 mach:∀ (i:Nat) p,ms[i]?=some p→p.2=Ru i∧Xp w p.1 (machC T p.2)
 ge:∀ q∈b::xb::gb::ms.map Prod.fst,w0.heap.size≤q
 dis:(b::xb::gb::ms.map Prod.fst).Nodup
 dm:∀ q,mv.ownBlock=some q→q ∉ b::xb::gb::ms.map Prod.fst
 dl:∀ q,lv.ownBlock=some q→q ∉ b::xb::gb::ms.map Prod.fst∧mv.ownBlock≠some q
section
variable {w0 w w2 w5:World} {T:Tbl} {b xb gb n k j:Nat} {cp:Int} {mv lv:Value} {ms:List (Nat×Wc)}
theorem Ot.lt(h:Ot w0 w T b xb gb cp n k j mv lv ms):∀ q∈b::xb::gb::ms.map Prod.fst,q<w.heap.size:=by
 intro q hq;simp only[Zg,Zjs]at hq;rcases hq with rfl|rfl|rfl | ⟨p,hp,rfl⟩
 ·exact h.cells.lt
 ·exact h.shr.lt
 ·exact h.box.blk.2
 obtain⟨i,hi⟩:=Zjr hp;exact(h.mach i p hi).2.lt
theorem Ot.chg{S:Nat→Prop}(h:Ot w0 w T b xb gb cp n k j mv lv ms)(x:Ext w0 w2)(c:Chg S w w2)(hS:∀ q∈b::xb::gb::ms.map Prod.fst,¬ S q)(hm:Own Zp2 w2 gb mv (ms.map Prod.fst))(hl:Own Wb w2 gb lv (List.replicate j (-1))):Ot w0 w2 T b xb gb cp n k j mv lv ms where
 ext:=x
 cells:=h.cells.chg c (hS b (by simp))
 box:=h.box.chg c (by intro q hq e;simp only[Value.ownBlock,Yd]at hq;exact hS gb (by simp) (hq▸e))
 shr:=h.shr.chg c (hS xb (by simp))
 mOwn:=hm
 lOwn:=hl
 len:=h.len
 mach i p hp:=⟨(h.mach i p hp).1,(h.mach i p hp).2.chg c (hS _ (by simp only[Zg,Zjs];exact .inr (.inr (.inr ⟨p,Zy hp,rfl⟩))))⟩
 ge:=h.ge
 dis:=h.dis
 dm:=h.dm
 dl:=h.dl
theorem Ot.up(h:Ot w0 w T b xb gb cp n k j mv lv ms)(x:Ext w w2):Ot w0 w2 T b xb gb cp n k j mv lv ms :=
 h.chg (h.ext.trans x) (x.chg fun _=>False) (fun _ _ e=>e) (h.mOwn.ext x) (h.lOwn.ext x)
theorem Ot.bne(h:Ot w0 w T b xb gb cp n k j mv lv ms):b≠xb∧b≠gb∧(∀ p∈ms,b≠p.1):=by
 have:=(Zja.1 h.dis).1;simp only[Zg,Zjs,not_or,not_exists,not_and]at this;exact⟨this.1,this.2.1,fun p hp e=>this.2.2 p hp e.symm⟩
theorem Ot.growM{mb n' c:Nat}{A:Option Addr}{o:Obj}(h:Ot w0 w T b xb gb cp n k j mv lv ms)(x:Ext w w2)(hb:Xp w2 mb (machC T (Ru k)))(hge:w.heap.size≤mb)(hg:Grew Zp2 (w2.alloc o) gb mv (ms.map Prod.fst++[mb]) A n' c w5) :
 Ot w0 (w5.setCell ⟨b,1,none⟩ (.slice A n' c)) T b xb gb cp n (k+1) j (.slice A n' c) lv (ms++[(mb,Ru k)]):=by
 have h2:=h.up x;have x2:=(Yl w2).alloc o;have hlt:=h.lt;have hlt2:=h2.lt;have hsz:=x.size;have hat:∀ q,(Value.slice A n' c).ownBlock=some q→mv.ownBlock=some q∨q=(w2.alloc o).heap.size:=fun q hq=>by
  rcases hg.at_ with h1|h1
  ·exact .inl (by rw[← h1];exact hq)
  rw[hq]at h1;exact .inr (Zjy h1)
 have hS:∀ q∈b::xb::gb::ms.map Prod.fst,¬ mv.ownBlock=some q:=fun q hq e=>h.dm q e hq
 have hmbS:¬ mv.ownBlock=some mb:=fun e=>by have:=(h.mOwn.lt mb e).2;omega
 have x5:Ext w0 w5:=hg.ext w0 ((h2.ext).trans x2) (h.ge gb (by simp));have l5:Own Wb w5 gb lv (List.replicate j (-1)):=(h2.lOwn.ext x2).chg hg.chg (fun q hq e=>(h.dl q hq).2 e);have b5:=(h2.cells.ext x2).chg hg.chg (hS b (by simp));have bge:=h.ge b (by simp);obtain⟨n1,n2,n3⟩:=h.bne;have hmb2:=hb.lt;have hnew:∀ q,q∈b::xb::gb::(ms++[(mb,Ru k)]).map Prod.fst↔q∈b::xb::gb::ms.map Prod.fst∨q=mb:=fun q=>by simp[or_assoc]
 have c6:Chg (· = b) w5 (w5.setCell ⟨b,1,none⟩ (.slice A n' c)):=(Chg.refl (· = b) w5).setCell (p:=⟨b,1,none⟩) (.inl rfl) _;refine⟨x5.chg_new c6 (fun i e=>by omega),?_,?_,?_,?_,?_,?_,?_,?_,?_,?_,?_⟩
 ·exact b5.set (j:=1) (by simp) (.slice A n' c)
 ·exact((h2.box.ext x2).chg hg.chg (fun q hq e=>by simp only[Value.ownBlock,Yd]at hq;exact hS gb (by simp) (hq▸e))).far (fun e=>by simp only[Value.ownBlock,Yd]at e;exact n2 e.symm) _
 ·exact((h2.shr.ext x2).chg hg.chg (hS xb (by simp))).far n1.symm _
 ·rw[Yy];exact hg.own.far (fun e=>by
   rcases hat b e with h1|h1
   ·exact hS b (by simp) h1
   have:=hlt2 b (by simp);simp at h1;omega) _
 ·exact l5.far (fun e=>(h.dl b e).1 (by simp)) _
 ·rw[Zs,h.len];rfl
 ·intro i p hp;by_cases hi:i<ms.length
  ·rw[Ze hi]at hp;have hmem:p.1∈b::xb::gb::ms.map Prod.fst:=by simp only[Zg,Zjs];exact .inr (.inr (.inr ⟨p,Zy hp,rfl⟩))
   exact⟨(h.mach i p hp).1,(((h2.mach i p hp).2.ext x2).chg hg.chg (hS _ hmem)).far (n3 p (Zy hp)).symm _⟩
  have hil:=(Zr.1 hp).1;rw[Zs,Zj3]at hil;obtain rfl:i=ms.length:=by omega
  rw[Zd (Yn _),Zgb]at hp;obtain rfl:(mb,Ru k)=p:=by simpa using hp
  refine⟨by rw[h.len],((hb.ext x2).chg hg.chg hmbS).far (fun e=>?_) _⟩;have:=hlt b (by simp);omega
 ·intro q hq;rcases(hnew q).1 hq with hq|rfl
  ·exact h.ge q hq
  have:=h.ext.size;omega
 ·have hn:mb ∉ b::xb::gb::ms.map Prod.fst:=fun hm=>by have:=hlt mb hm;omega
  rw[Yy,show b::xb::gb::(ms.map Prod.fst++[(mb,Ru k)].map Prod.fst)=(b::xb::gb::ms.map Prod.fst)++[mb] from rfl,Zg2];exact⟨h.dis,by simp,fun q hq y hy e=>hn (by rw[Zi.1 hy]at e;exact e▸hq)⟩
 ·intro q hq hm;rcases(hnew q).1 hm with hm|rfl
  ·rcases hat q hq with h1|h1
   ·exact h.dm q h1 hm
   have:=hlt2 q hm;simp at h1;omega
  rcases hat q hq with h1|h1
  ·exact hmbS h1
  simp at h1;omega
 intro q hq;refine⟨fun hm=>?_,fun e=>?_⟩
 ·rcases(hnew q).1 hm with hm|rfl
  ·exact(h.dl q hq).1 hm
  have:=(h.lOwn.lt q hq).2;omega
 rcases hat q e with h1|h1
 ·exact(h.dl q hq).2 h1
 have:=(h2.lOwn.lt q hq).2;simp at h1;omega
theorem Ot.growL{n' c:Nat}{A:Option Addr}{o:Obj}(h:Ot w0 w T b xb gb cp n k j mv lv ms)(hg:Grew Wb (w.alloc o) gb lv (List.replicate j (-1)++[-1]) A n' c w5) :
 Ot w0 (w5.setCell ⟨b,4,none⟩ (.slice A n' c)) T b xb gb cp n k (j+1) mv (.slice A n' c) ms:=by
 have x2:=(Yl w).alloc o;have hlt:=h.lt;have hat:∀ q,(Value.slice A n' c).ownBlock=some q→lv.ownBlock=some q∨q=(w.alloc o).heap.size:=fun q hq=>by
  rcases hg.at_ with h1|h1
  ·exact .inl (by rw[← h1];exact hq)
  rw[hq]at h1;exact .inr (Zjy h1)
 have hS:∀ q∈b::xb::gb::ms.map Prod.fst,¬ lv.ownBlock=some q:=fun q hq e=>(h.dl q e).1 hq
 have x5:Ext w0 w5:=hg.ext w0 (h.ext.trans x2) (h.ge gb (by simp));have m5:Own Zp2 w5 gb mv (ms.map Prod.fst):=(h.mOwn.ext x2).chg hg.chg (fun q hq e=>(h.dl q e).2 hq);have bge:=h.ge b (by simp);obtain⟨n1,n2,n3⟩:=h.bne;have c6:Chg (· = b) w5 (w5.setCell ⟨b,4,none⟩ (.slice A n' c)):=(Chg.refl (· = b) w5).setCell (p:=⟨b,4,none⟩) (.inl rfl) _;have erep:List.replicate j (-1:Int)++[-1]=List.replicate (j+1) (-1):=by rw[List.replicate_succ']
 refine⟨x5.chg_new c6 (fun i e=>by omega),?_,?_,?_,?_,?_,h.len,?_,h.ge,h.dis,h.dm,?_⟩
 ·exact((h.cells.ext x2).chg hg.chg (hS b (by simp))).set (j:=4) (by simp) (.slice A n' c)
 ·exact((h.box.ext x2).chg hg.chg (fun q hq e=>by simp only[Value.ownBlock,Yd]at hq;exact hS gb (by simp) (hq▸e))).far (fun e=>by simp only[Value.ownBlock,Yd]at e;exact n2 e.symm) _
 ·exact((h.shr.ext x2).chg hg.chg (hS xb (by simp))).far n1.symm _
 ·exact m5.far (fun e=>h.dm b e (by simp)) _
 ·rw[← erep];exact hg.own.far (fun e=>by
   rcases hat b e with h1|h1
   ·exact hS b (by simp) h1
   have:=hlt b (by simp);simp at h1;omega) _
 ·intro i p hp;have hmem:p.1∈b::xb::gb::ms.map Prod.fst:=by simp only[Zg,Zjs];exact .inr (.inr (.inr ⟨p,Zy hp,rfl⟩))
  exact⟨(h.mach i p hp).1,(((h.mach i p hp).2.ext x2).chg hg.chg (hS _ hmem)).far (n3 p (Zy hp)).symm _⟩
 intro q hq;rcases hat q hq with h1|h1
 ·exact h.dl q h1
 exact⟨fun hm=>by have:=hlt q hm;simp at h1;omega,fun e=>by have:=(h.mOwn.lt q e).2;simp at h1;omega⟩
theorem J4.chgO{S:Nat→Prop}{w w':World}{b:Nat}{T:Tbl}(h:J4 w b T)(c:Chg S w w')(hb:¬ S b):J4 w' b T :=
 ⟨Zk8 h.lt c.size,fun k hk=>(c.cell (p:=⟨b,k,none⟩) h.lt hb).trans (h.at_ k hk)⟩
theorem Zmp{k:Nat}(hk:k<64):MOk (Ru k) :=
 ⟨by simp[Ru],by simp[Ru],by simp[Ru],⟨by simp[Ru];omega,KS.nil,Zip _⟩,fun h=>by simp[Ru]at h,fun h=>by simp[Ru]at h,fun h=>by simp[Ru]at h,fun h=>by simp[Ru]at h,fun h=>by simp[Ru]at h⟩
theorem Ot.desk{S:Nat→Prop}(h:Ot w0 w T b xb gb cp n n n mv lv ms)(hn:0<n)(hn2:n≤64)(hT:Xk w0 S T):∃ (d:Dk) (U:Nat→Prop),Wt w U T b w0.heap.size d∧d.ms=ms∧d.x=Zv1 n cp∧d.n=0∧d.t=0∧d.ops=[]∧d.last=List.replicate n (-1)∧d.bs_=List.replicate n []:=by
 obtain⟨gl,cl,rfl,hl1,hl2,hl3,hl4⟩:=h.lOwn.some_ (by rw[Z2];exact hn);have hdl:=h.dl gl rfl;have hlt:=h.lt;have hnd:=Zja.1 h.dis;refine⟨{xb:=xb,x:=Zv1 n cp,mv:=mv,ms:=ms,gb:=gb,cb:=n,bx:=List.replicate n ⟨none,0,0⟩,bs_:=List.replicate n [],ov:=.slice none 0 0,ops:=[],gl:=gl,cl:=cl,last:=List.replicate n (-1),t:=0,n:=0},fun q=>q∈b::xb::gb::gl::ms.map Prod.fst,?_,rfl,rfl,rfl,rfl,rfl,rfl,rfl⟩;have hU:∀ q,q∈b::xb::gb::gl::ms.map Prod.fst↔q∈b::xb::gb::ms.map Prod.fst∨q=gl:=fun q=>by
  simp only[Zg];constructor
  ·rintro(h1|h1|h1|h1|h1)
   ·exact .inl (.inl h1)
   ·exact .inl (.inr (.inl h1))
   ·exact .inl (.inr (.inr (.inl h1)))
   ·exact .inr h1
   exact .inl (.inr (.inr (.inr h1)))
  rintro((h1|h1|h1|h1)|h1)
  ·exact .inl h1
  ·exact .inr (.inl h1)
  ·exact .inr (.inr (.inl h1))
  ·exact .inr (.inr (.inr (.inr h1)))
  exact .inr (.inr (.inr (.inl h1)))
 have hgg:=h.ge gb (by simp);have hge:∀ q,q∈b::xb::gb::gl::ms.map Prod.fst→w0.heap.size≤q∧q<w.heap.size:=fun q hq=>by
  rcases(hU q).1 hq with hq|rfl
  ·exact⟨h.ge q hq,hlt q hq⟩
  exact⟨by omega,hl2⟩
 exact {
  cells:=by have:=h.cells;simp only[Z2]at this;simpa[Zwx,Dk.bv,Dk.lv]using this
  hU:=hge
  ub:=by simp,ux:=by simp,ugb:=by simp,ugl:=by simp
  um:=fun p hp=>by simp only[Zg,Zjs];exact .inr (.inr (.inr (.inr ⟨p,hp,rfl⟩)))
  uo:=fun k hk=>by simp[Value.ownBlock]at hk
  dis:=by
   have d0:=Zja.1 h.dis;have d1:=Zja.1 d0.2;have d2:=Zja.1 d1.2;have hg:=hdl.1;simp only[Zg,not_or]at d0 d1 d2 hg;simp only[Zja,Zg,not_or];exact⟨⟨d0.1.1,d0.1.2.1,fun e=>hg.1 e.symm,d0.1.2.2⟩,⟨d1.1.1,fun e=>hg.2.1 e.symm,d1.1.2⟩,⟨fun e=>hg.2.2.1 e.symm,d2.1⟩,hg.2.2.2,d2.2⟩
  dio:=fun k hk=>by simp[Value.ownBlock]at hk
  tbl:=Ed ((Ed (S':=fun k=>k<w0.heap.size) hT fun k _ hl=>hl).up h.ext) (fun k hk _ hu=>by have:=(hge k hu).1;omega)
  shr:=⟨h.shr,Rd.nil _ _ _,Rd.nil _ _ _⟩
  xok:=⟨by simp[Zv1],by simp[Zv1],by simp[Zv1],by simp[Zv1],by simp[Zv1],by simp[Zv1]⟩
  ptr:=Rd.of_own h.mOwn (fun q hq hu=>by
   rcases(hU q).1 hu with hu|rfl
   ·exact h.dm q hq hu
   exact hdl.2 hq)
  mach:=fun p hp=>by
   obtain⟨i,hi⟩:=Zjr hp;obtain⟨h1,h2⟩:=h.mach i p hi;have hil:=(Zr.1 hi).1;rw[h.len]at hil;obtain⟨p1,p2⟩:=p;simp only at h1 h2⊢;subst h1;exact⟨⟨h2,Rd.nil _ _ _,Rd.nil _ _ _⟩,Zmp (by omega)⟩
  box:=by have:=h.box;simpa[Dk.bv]using this
  boxes:=fun j s l h1 h2=>by
   have e1:=Zy h1;have e2:=Zy h2;rw[Zg3 e1,Zg3 e2];exact⟨Rd.nil _ _ _,by simp⟩
  lb:=by simp[h.len]
  lbs:=by simp[h.len]
  ll:=by simp[h.len]
  lm:=by simp[h.len];exact hn2
  own:=Own.nil _ _ _
  nms:=by simp
  lo:=by simp
  n16:=by simp
  lown:=by have:=h.lOwn.base hgg;simpa[Dk.lv]using this}
end
end
theorem Zm3(w:World)(mb:Nat)(t:TypeId)(g:Nat)(hg:w.heap.size=g):RdE Zp2 (w.alloc (.cells #[.pointer (some ⟨mb,0,none⟩)] t)) (fun _=>True) (.slice (some ⟨g,0,none⟩) 1 1) [mb]:=by
 subst hg;exact Qr w #[.pointer (some ⟨mb,0,none⟩)] t 1 rfl
def I3(T:Tbl)(n:Nat)(cp:Int)(w:World)(e:Ending)(w':World):Prop :=
 ∃ (b:Nat) (d:Dk) (U:Nat→Prop),e=.returned (.tuple #[.pointer (some ⟨b,0,none⟩),.int .i64 0])∧Wt w' U T b w.heap.size d∧d.ms.length=n∧(∀ (i:Nat) p,d.ms[i]?=some p→p.2=Ru i)∧d.x=Zv1 n cp∧d.n=0∧d.t=0∧d.ops=[]∧d.last=List.replicate n (-1)∧d.bs_=List.replicate n []∧Ext w w'
theorem Zzp{S:Nat→Prop}(T:Tbl)(hg:Fv T)(n:Nat)(cp:Int)(hn:0<n)(hn2:n≤64)(hc:V7 n cp=0)(w:World)(h:Xk w S T):Calls prog 31 #[Vn T,.agg #[.int .i64 (n:Int),.int .i64 cp]] w (I3 T n cp w):=by
 have G:=Y4 hg;have Hc:=Y4 hc;have HT:=Y4 h;clear hg hc;have X0:=Y4 ((Yl w).alloc (Wx T));have H:=Y4 (h.up X0.o);have Hb0:=Y4 (Xm w T);clear h;go_enter func31,ntmps31;go_wp2_with (first|(refine Xw rfl ?_)|(refine Xz (Hb0.o.ext ((Yl _).alloc _)) rfl ?_));have X1:=Y4 (X0.o.alloc (.cells #[.int .i64 (n:Int),.int .i64 cp] 37));have Cb:=Y4 (Xp.new (w.alloc (Wx T)) #[.int .i64 (n:Int),.int .i64 cp] 37);obtain⟨cb,hcb⟩:=gnX (((w.alloc (Wx T))).heap.size);obtain⟨W1,hW1⟩:=gnX (((w.alloc (Wx T))).alloc (.cells #[.int .i64 (n:Int),.int .i64 cp] 37));have Hb1:=Y4 (Hb0.o.ext ((Yl _).alloc (.cells #[.int .i64 (n:Int),.int .i64 cp] 37)));rw[hW1]at X1 Hb1;rw[hcb]at Cb;rw[hW1]at Cb;try rw[hW1]
 have hcb':w.heap.size+1=cb:=by rw[← hcb];simp
 try rw[hcb']
 clear hW1 hcb hcb';refine(Dw T G.o _ (HT.o.up X1.o)).mono ?_;rintro e w2 ⟨rfl,hx2⟩;have c0:=(Cb.o.ext hx2).at_ 0 (by simp);have c1:=(Cb.o.ext hx2).at_ 1 (by simp);simp only[Zx,Zw]at c0 c1;have X2:=Y4 (X1.o.trans hx2);have Cb2:=Y4 (Cb.o.ext hx2);have Hb2:=Y4 (Hb1.o.ext hx2);clear hx2;go_wp2_with fail;refine(Rt n cp Hc.o _).mono ?_;rintro e w3 ⟨xb,rfl,hsh,hxb,hx3⟩;have c0:=(Cb2.o.ext hx3).at_ 0 (by simp);simp only[Zx]at c0;have X3:=Y4 (X2.o.trans hx3);have Cb3:=Y4 (Cb2.o.ext hx3);have Hb3:=Y4 (Hb2.o.ext hx3);have Hsh:=Y4 hsh;have mk:=Zpq n (by omega);clear hx3 hsh c1;have hxb2:=Hsh.o.lt;have hs3:=X3.o.size;have hxw2:=X2.o.size;have D0:=Y4 (show Ot w ((w3.alloc (.cells (Mc n) 24)).alloc (.cells #[.pointer (some ⟨xb,0,none⟩),.slice none 0 0,.slice (some ⟨w3.heap.size,0,none⟩) n n,.slice none 0 0,.slice none 0 0,.int .i64 0] 146)) T (w3.heap.size+1) xb w3.heap.size cp n 0 0 (.slice none 0 0) (.slice none 0 0) [] from
  {ext:=(X3.o.alloc _).alloc _
   cells:=by
    have:=Xp.new (w3.alloc (.cells (Mc n) 24)) #[.pointer (some ⟨xb,0,none⟩),.slice none 0 0,.slice (some ⟨w3.heap.size,0,none⟩) n n,.slice none 0 0,.slice none 0 0,.int .i64 0] 146;rw[show(w3.alloc (.cells (Mc n) 24)).heap.size=w3.heap.size+1 by simp]at this;exact this
   box:=((Zma w3 n (by omega)).base hs3).ext ((Yl _).alloc _)
   shr:=(Hsh.o.ext ((Yl _).alloc _)).ext ((Yl _).alloc _)
   mOwn:=Own.nil _ _ _
   lOwn:=Own.nil _ _ _
   len:=rfl
   mach:=fun i p hp=>by simp at hp
   ge:=fun q hq=>by simp only[Ziz,Zg,Zh,Zin]at hq;omega
   dis:=by
    simp only[Ziz,Zja,Zg,Zh,Zin,not_or,not_false_eq_true,List.nodup_nil,Zj6];omega
   dm:=fun q hq=>by simp[Value.ownBlock]at hq
   dl:=fun q hq=>by simp[Value.ownBlock]at hq})
 have Hb4:=Y4 ((Hb3.o.ext ((Yl _).alloc (.cells (Mc n) 24))).ext ((Yl _).alloc (.cells #[.pointer (some ⟨xb,0,none⟩),.slice none 0 0,.slice (some ⟨w3.heap.size,0,none⟩) n n,.slice none 0 0,.slice none 0 0,.int .i64 0] 146)));have Cb4:=Y4 ((Cb3.o.ext ((Yl _).alloc (.cells (Mc n) 24))).ext ((Yl _).alloc (.cells #[.pointer (some ⟨xb,0,none⟩),.slice none 0 0,.slice (some ⟨w3.heap.size,0,none⟩) n n,.slice none 0 0,.slice none 0 0,.int .i64 0] 146)));go_upto_region 7 with fail;obtain⟨W4,hW4⟩:=gnX ((w3.alloc (.cells (Mc n) 24)).alloc (.cells #[.pointer (some ⟨xb,0,none⟩),.slice none 0 0,.slice (some ⟨w3.heap.size,0,none⟩) n n,.slice none 0 0,.slice none 0 0,.int .i64 0] 146));rw[hW4]at D0 Hb4 Cb4;rw[hW4];obtain⟨gb,hgb⟩:=gnX (w3.heap.size);obtain⟨b,hb⟩:=gnX (w3.heap.size+1);have hcl:=Cb3.o.lt;have hbl:=Hb3.o.lt;rw[hb]at D0;rw[hgb]at D0 hcl hbl hb hs3 hxb2;try rw[hgb]
 try rw[hb]
 have Hbz:=Y4 hb;clear hW4 mk c0 X1 X2 X3 Hb2 Hb3 Cb Cb2 Cb3 Hb1 Hsh hgb hb;go_wp2_with fail;go_loopw [9] (fun o wr=>∃ (k:Nat) (mv lv:Value) (ms:List (Nat×Wc)),k≤n∧o=.int .i64 (k:Int)∧Ot w wr T b xb gb cp n k k mv lv ms∧J4 wr w.heap.size T∧Xp wr cb [.int .i64 (n:Int),.int .i64 cp]) (fun o _=>n-(intOf o).toNat);case atStart=>exact⟨0,_,_,[],by omega,rfl,D0.o,Hb4.o,Cb4.o⟩
 clear D0 Hb4 Cb4;obtain⟨k,mv,lv,ms,hk,rfl,hd,hbx,hcx⟩:=hrel;rename World=>wr
 have D1:=Y4 hd;have B1:=Y4 hbx;have C1:=Y4 hcx;have c0:=hcx.at_ 0 (by simp);simp only[Zx]at c0;clear hd hbx hcx;by_cases hlt:k<n
 ·obtain⟨hd_k,i0_k,i1_k⟩:=LTl k n;go_wp2_with (refine Xz B1.o rfl ?_);refine(Zzo T G.o k (by omega) _ (HT.o.up D1.o.ext)).mono ?_;rintro e w2 ⟨mb,rfl,hmb,hge,hx2⟩;have Hmb:=Y4 hmb;have X2:=Y4 hx2;have D2:=Y4 (D1.o.up hx2);have B2:=Y4 (B1.o.ext hx2);have C2:=Y4 (C1.o.ext hx2);have a1:=D2.o.cells.at_ 1 (by simp);simp only[Zx,Zw]at a1;obtain⟨Am,Cm,rfl,hlm,hcm⟩:=D2.o.mOwn.shape;obtain⟨nm,hnm⟩:=gnX ((ms.map Prod.fst).length);rw[hnm]at a1 D1 D2 hlm;have Hnm:=Y4 (show nm=k by rw[← hnm,Zq];exact D2.o.len);have Hnm2:=Y4 hnm;have hsz:=D2.o.ext.size;clear hmb hx2 hnm c0 hd_k;go_upto_region 12 with(at_builtin;refine Xt Zp2 _ _ _ rfl rfl rfl rfl (D2.o.mOwn.ext ((Yl _).alloc _)) rfl (Zm3 w2 mb _ _ rfl) (by rw[Hnm2.o];show nm+1≤_;have:=Hnm.o;omega) (by show 8≤1000;omega) (by have:=D2.o.box.blk.2;simp;omega) ?_;intro A5 n5 c5 w5 hg5;have D3:=Y4 (D1.o.growM X2.o Hmb.o hge hg5);have b5:=(D2.o.cells.ext ((Yl _).alloc (.cells #[.pointer (some ⟨mb,0,none⟩)] 147))).chg hg5.chg (fun e=>D2.o.dm b e (by simp));have X5:=Y4 (hg5.ext w (D2.o.ext.alloc _) hs3);have B5:=Y4 ((B2.o.ext ((Yl _).alloc (.cells #[.pointer (some ⟨mb,0,none⟩)] 147))).chgO hg5.chg (fun e=>by have:=(D2.o.mOwn.lt _ e).1;omega));have C5:=Y4 ((C2.o.ext ((Yl _).alloc (.cells #[.pointer (some ⟨mb,0,none⟩)] 147))).chg hg5.chg (fun e=>by have:=(D2.o.mOwn.lt _ e).1;omega));have a1':=b5.at_ 1 (by simp);have f1':=b5.fz;simp only[Zx,Zw]at a1';clear hg5 b5);have cst:=(Chg.refl (· = b) w5).setCell (p:=⟨b,1,none⟩) (.inl rfl) (.slice A5 n5 c5);have B6:=Y4 (B5.o.chgO cst (show ¬ w.heap.size=b by have:=Hbz.o;omega));have C6:=Y4 (C5.o.chg cst (show ¬ cb=b by have:=Hbz.o;omega));obtain⟨W6,hW6⟩:=gnX (w5.setCell ⟨b,1,none⟩ (.slice A5 n5 c5));rw[hW6]at D3 B6 C6;rw[hW6];clear hW6 cst a1 a1' f1' D1 D2 B1 B2 C1 C2 B5 C5 X2 X5 Hmb;have a4:=D3.o.cells.at_ 4 (by simp);simp only[Zx,Zw]at a4;obtain⟨Al,Cl,rfl,hll,hcl'⟩:=D3.o.lOwn.shape;rw[Z2]at a4 D3 hll;go_upto_region 9 with(at_builtin;refine Xt Wb _ _ _ rfl rfl rfl rfl (D3.o.lOwn.ext ((Yl _).alloc _)) rfl (Wr W6 (-1) _ _ rfl) (by rw[Z2];show k+1≤_;omega) (by show 8≤1000;omega) (by have:=D3.o.box.blk.2;simp;omega) ?_;intro A7 n7 c7 w7 hg7;have D4:=Y4 (D3.o.growL hg7);have b7:=(D3.o.cells.ext ((Yl _).alloc (.cells #[.int .i64 (-1)] 3))).chg hg7.chg (fun e=>(D3.o.dl b e).1 (by simp));have B7:=Y4 ((B6.o.ext ((Yl _).alloc (.cells #[.int .i64 (-1)] 3))).chgO hg7.chg (fun e=>by have:=(D3.o.lOwn.lt _ e).1;omega));have C7:=Y4 ((C6.o.ext ((Yl _).alloc (.cells #[.int .i64 (-1)] 3))).chg hg7.chg (fun e=>by have:=(D3.o.lOwn.lt _ e).1;omega));have a4':=b7.at_ 4 (by simp);have f4':=b7.fz;simp only[Zx,Zw]at a4';clear hg7 b7);have cst:=(Chg.refl (· = b) w7).setCell (p:=⟨b,4,none⟩) (.inl rfl) (.slice A7 n7 c7);have B8:=Y4 (B7.o.chgO cst (show ¬ w.heap.size=b by have:=Hbz.o;omega));have C8:=Y4 (C7.o.chg cst (show ¬ cb=b by have:=Hbz.o;omega));clear cst a4 a4' f4' B7 C7 B6 C6;go_wp2_with fail;go_roundw;case rel=>exact⟨k+1,_,_,_,by omega,by go_num,D4.o,B8.o,C8.o⟩
  (simp[intOf];omega)
 have hd_k:=GEl k n;go_wp2_with fail;go_ret2;obtain rfl:k=n:=by omega
 obtain⟨d,U,h1,h2,h3,h4,h5,h6,h7,h8⟩:=D1.o.desk hn hn2 HT.o;exact⟨b,d,U,rfl,h1,by rw[h2];exact D1.o.len,fun i p hp=>(D1.o.mach i p (by rw[← h2];exact hp)).1,h3,h4,h5,h6,h7,h8,D1.o.ext⟩
