/- Lemmas of this claim: Dk3, OpW, DoLaw, Start, Expl, Fit. Conditions: as named. -/
import Derived.Deep.MidRow
import Derived.Test.YtnbclgbicnpmnaaGreatA02
import Derived.Test.YtnbclgbicnpmnaaGreatA03
import Derived.Test.YtnbclgbicnpmnaaGreatA09
import Derived.Test.YtnbclgbicnpmnaaGreatA14
import Derived.Test.YtnbclgbicnpmnaaGreatA19
import Derived.Test.YtnbclgbicnpmnaaGreatA21
namespace Go.Proofs.YtnbclgbicnpmnaaGreat
open Go.RowKit Go.Sort
set_option maxHeartbeats 0
set_option maxRecDepth 100000
set_option linter.all false
section
theorem J0{P:Program}{ops:Array Oper}{op:Oper}{a:Act}{w:World}{K:Act→World→Prop}{Q:Exit→Act→World→Prop}{F:Prop}(hgd:op.guard=none)(ty:TypeId)(x y:Operand)(ho:op.op=.store ty x y)
 (b o:Nat) (cells:Array Value) (hx:a.eval x=.pointer (some ⟨b,o,none⟩)) (hy:a.eval y=.agg cells) (ht:w.there b o cells.size) (hi:(P.info? ty).map (·.size)=some cells.size) (h1:cells.all (·.oneCell')=true)
 (h:K (a.put op.dst undef) (w.setCells b o cells.toList)):if Region.wanted op (yielded ops a.tmps)=true then op.wp P a w K Q else F:=by
 rw[Zm4 (by simp[Region.wanted,hgd])];exact wp_store_mid ty x y ho b o cells hx hy ht hi h1 h
theorem Et{w:World}{S S':Nat→Prop}{t:Tbl}(h:Xl w S t)(hS:∀ k,S k→k<w.heap.size→S' k):Xl w S' t :=
 ⟨Rd.mono h.cat hS,Rd.mono h.cls hS,Rd.mono h.joi hS,Rd.mono h.bid hS,Rd.mono h.scr hS,Rd.mono h.sta hS,Rd.mono h.ign hS,⟨Rd.mono h.ext.1 hS,fun m hm=>Rd.mono (h.ext.2 m hm) hS⟩,⟨Rd.mono h.map.1 hS,fun m hm=>Rd.mono (h.map.2 m hm) hS⟩,⟨Rd.mono h.dec.1 hS,fun m hm=>Rd.mono (h.dec.2 m hm) hS⟩,Rd.mono h.exc hS,⟨Rd.mono h.pro.1 hS,fun m hm=>Rd.mono (h.pro.2 m hm) hS⟩⟩
def Zwv:List Value→Nat→List Value→List Value
 | xs,_,[]=>xs
 | xs,p,v::r=>Zwv (xs.set p v) (p+1) r
theorem Zzf:∀ (vs a b c:List Value) (f:Nat),f+vs.length≤b.length→Zwv (a++(b++c)) (a.length+f) vs=a++(Zwv b f vs++c)
 | [],_,_,_,_,_=>rfl
 | v::r,a,b,c,f,h=>by
  simp only[Zl]at h;rw[Zwv,Zwv,← Zzf r a (b.set f v) c (f+1) (by rw[Zf];omega),Ziz,Zm2 (by omega),Zih,Ziz,Zm4 (by omega),Zkx]
theorem Sw:∀ (vs b:List Value) (f:Nat),f+vs.length≤b.length→Zwv b f vs=b.take f++(vs++b.drop (f+vs.length))
 | [],b,f,_=>by simp[Zwv]
 | v::r,b,f,h=>by
  simp only[Zl]at h;have hl:(b.take f).length=f:=by simp;omega
  rw[Zwv,Sw r _ _ (by rw[Zf];omega)];have e1:(b.set f v).take (f+1)=b.take f++[v]:=by
   rw[Za,List.take_set_of_le (Yn f),Zc (by omega)];rfl
  have e2:(b.set f v).drop (f+1+r.length)=b.drop (f+(v::r).length):=by
   rw[List.drop_set_of_lt (by omega)];congr 1;simp only[Zl];omega
  rw[e1,e2,List.append_assoc];rfl
theorem Re{B z g n c m:Nat}{t:TypeId}:∀ {vs:List Value} {w:World} {p:Nat} {xs:List Value},w.ownsRow B t z (.slice (some ⟨g,0,none⟩) n c) m xs→(w.setCells g p vs).ownsRow B t z (.slice (some ⟨g,0,none⟩) n c) m (Zwv xs p vs)
 | [],_,_,_,h=>h
 | v::r,_,p,_,h=>Re (vs:=r) (Zrc h p v)
theorem Zum{l:List Opn}{i f:Nat}{o o':Opn}{vs:List Value}(h:l[i]?=some o)(hf:f+vs.length≤23)(he:opC o'=(opC o).take f++(vs++(opC o).drop (f+vs.length))):Zwv (Gc l) (i*23+f) vs=Gc (l.set i o'):=by
 have hi:=(Zr.1 h).1;have ho:l[i]=o:=(Zr.1 h).2;have e0:l=l.take i++([o]++l.drop (i+1)):=by rw[← ho];simp
 have e1:l.set i o'=l.take i++([o']++l.drop (i+1)):=by rw[Zjh,Zm4 hi];rfl
 have el:(Gc (l.take i)).length=i*23:=by rw[Bd,Zp];congr 1;omega
 have e2:Gc l=Gc (l.take i)++(opC o++Gc (l.drop (i+1))):=by
  conv=>lhs;rw[e0]
  rw[Qc,Qc];simp[Gc]
 rw[e1,Qc,Qc,e2,← el,Zzf vs _ _ _ f (by rw[Ko];exact hf),Sw vs _ f (by rw[Ko];exact hf),← he];simp[Gc]
theorem Ww.ne{w:World}{U:Nat→Prop}{T:Tbl}{b B:Nat}{d:Dk}(h:Ww w U T b B d):b≠d.xb∧b≠d.gb∧b≠d.gl∧d.xb≠d.gb∧d.xb≠d.gl∧d.gb≠d.gl∧∀ p∈d.ms,p.1≠b∧p.1≠d.xb∧p.1≠d.gb∧p.1≠d.gl:=by
 have d0:=Zlm.1 h.dis;have d1:=Zlm.1 d0.2;have d2:=Zlm.1 d1.2;have d3:=Zlm.1 d2.2;simp only[Zg,not_or]at d0 d1 d2 d3;refine⟨d0.1.1,d0.1.2.1,d0.1.2.2.1,d1.1.1,d1.1.2.1,d2.1.1,fun p hp=>?_⟩;have hm:p.1∈d.ms.map Prod.fst:=Zlw.2 ⟨_,hp,rfl⟩;exact⟨fun e=>d0.1.2.2.2 (e▸hm),fun e=>d1.1.2.2 (e▸hm),fun e=>d2.1.2 (e▸hm),fun e=>d3.1 (e▸hm)⟩
theorem Ww.nov{w:World}{U:Nat→Prop}{T:Tbl}{b B:Nat}{d:Dk}(h:Ww w U T b B d){g:Nat}(hg:d.ov.ownBlock=some g):b≠g∧d.xb≠g∧d.gb≠g∧d.gl≠g∧∀ p∈d.ms,p.1≠g:=by
 have:=h.dio g hg;simp only[Zg,not_or]at this;obtain⟨h1,h2,h3,h4,h5⟩:=this;exact⟨fun e=>h1 e.symm,fun e=>h2 e.symm,fun e=>h3 e.symm,fun e=>h4 e.symm,fun p hp e=>h5 (Zlw.2 ⟨p,hp,e⟩)⟩
theorem Ww.ext{w w':World}{U:Nat→Prop}{T:Tbl}{b B:Nat}{d:Dk}(h:Ww w U T b B d)(x:Ext w w'):Ww w' U T b B d where
 cells:=h.cells.ext x
 hU:=fun k hk=>⟨(h.hU k hk).1,Zm1 (h.hU k hk).2 x.size⟩
 ub:=h.ub
 ux:=h.ux
 ugb:=h.ugb
 ugl:=h.ugl
 um:=h.um
 uo:=h.uo
 dis:=h.dis
 dio:=h.dio
 tbl:=h.tbl.up x
 shr:=⟨h.shr.cells.ext x,Rd.ext h.shr.ks x,Rd.ext h.shr.rs x⟩
 xok:=h.xok
 ptr:=Rd.ext h.ptr x
 mach:=fun p hp=>⟨⟨(h.mach p hp).1.cells.ext x,Rd.ext (h.mach p hp).1.ns x,Rd.ext (h.mach p hp).1.rs x⟩,(h.mach p hp).2⟩
 box:=h.box.ext x
 boxes:=fun j s l h1 h2=>⟨Rd.ext (h.boxes j s l h1 h2).1 x,(h.boxes j s l h1 h2).2⟩
 lb:=h.lb
 lbs:=h.lbs
 ll:=h.ll
 lm:=h.lm
 own:=h.own.ext x
 nms:=fun o ho=>Rd.ext (h.nms o ho) x
 lo:=h.lo
 n16:=h.n16
 lown:=h.lown.ext x
theorem Ww.c{w:World}{U:Nat→Prop}{T:Tbl}{b B:Nat}{d:Dk}(h:Ww w U T b B d)(j:Nat){v:Value}(hv:(Zyj d)[j]?=some v):w.cell? ⟨b,j,none⟩=some v:=by
 rw[h.cells.at_ j (Zr.1 hv).1,hv]
section
variable {w:World} {U:Nat→Prop} {T:Tbl} {b B:Nat} {d:Dk}
theorem Ww.setOp(h:Ww w U T b B d){g n c z f:Nat}{o o':OpS}{vs:List Value}(hv:d.ov=.slice (some ⟨g,0,none⟩) n c)(hz:d.ops[z]?=some o)(hf:f+vs.length≤23)(he:opC o'.1=(opC o.1).take f++(vs++(opC o.1).drop (f+vs.length)))
 (hn:Vo w (fun k=>¬ U k) o'.1.nv o'.1.ns) (h16:o'.1.ns.length≤16∧Sc o'.1):Ww (w.setCells g (z*23+f) vs) U T b B {d with ops:=d.ops.set z o' }:=by
 have c:Chg (· = g) w (w.setCells g (z*23+f) vs):=Xi (S:=(· = g)) (.inl rfl) (Chg.refl _ _);have hob:d.ov.ownBlock=some g:=by rw[hv];rfl
 have hug:=h.uo g hob;obtain⟨n1,n2,n3,n4,n5⟩:=h.nov hob;have hS:∀ j,¬ U j→¬ j=g:=fun j hj e=>hj (e▸hug)
 exact {
  cells:=h.cells.chg c n1
  hU:=fun k hk=>⟨(h.hU k hk).1,Zm1 (h.hU k hk).2 c.size⟩
  ub:=h.ub,ux:=h.ux,ugb:=h.ugb,ugl:=h.ugl,um:=h.um,uo:=h.uo,dis:=h.dis,dio:=h.dio
  tbl:=h.tbl.chg c hS
  shr:=h.shr.chg c n2 hS
  xok:=h.xok
  ptr:=Rd.chg h.ptr c hS
  mach:=fun p hp=>⟨(h.mach p hp).1.chg c (n5 p hp) hS,(h.mach p hp).2⟩
  box:=h.box.chg c (by intro j hj e;simp only[Dk.bv,Value.ownBlock,Yd]at hj;exact n3 (hj.trans e))
  boxes:=fun j s l h1 h2=>⟨Rd.chg (h.boxes j s l h1 h2).1 c hS,(h.boxes j s l h1 h2).2⟩
  lb:=h.lb,lbs:=h.lbs,ll:=h.ll,lm:=h.lm
  own:=by
   have h0:=h.own;unfold Own at h0⊢;rw[hv]at h0;simp only[hv,Zf];have h1:=Re (vs:=vs) (p:=z*23+f) h0;have e:Zwv (opE.cells d.ops) (z*23+f) vs=opE.cells (d.ops.set z o'):=by
    show Zwv (Gc (d.ops.map Subtype.val)) (z*23+f) vs=Gc ((d.ops.set z o').map Subtype.val);rw[Zum (o:=o.1) (o':=o'.1) (by rw[Zn,hz];rfl) hf he,Zj4]
   rw[e]at h1;exact h1
  nms:=fun q hq=>by
   rcases Zkm hq with h1|rfl
   ·exact Rd.chg (h.nms q h1) c hS
   exact Rd.chg hn c hS
  lo:=by rw[Zf];exact h.lo
  n16:=fun q hq=>by
   rcases Zkm hq with h1|rfl
   ·exact h.n16 q h1
   exact h16
  lown:=h.lown.chg c (by intro j hj e;simp only[Dk.lv,Value.ownBlock,Yd]at hj;exact n4 (hj.trans e))}
theorem Ww.setBox(h:Ww w U T b B d){k:Nat}(hk:k<d.ms.length)(s:Sl)(l:List ByteArray)(hr:RdE Q6 w (fun k=>¬ U k) s.v l)(hl:l.length≤8) :
 Ww (w.setCell ⟨d.gb,k,none⟩ s.v) U T b B {d with bx:=d.bx.set k s,bs_:=d.bs_.set k l}:=by
 have c:Chg (· = d.gb) w (w.setCell ⟨d.gb,k,none⟩ s.v):=(Chg.refl (· = d.gb) w).setCell (p:=⟨d.gb,k,none⟩) (.inl rfl) _;obtain⟨n1,n2,n3,n4,n5,n6,n7⟩:=h.ne;have hS:∀ j,¬ U j→¬ j=d.gb:=fun j hj e=>hj (e▸h.ugb)
 exact {
  cells:=by
   have:=h.cells.chg c n2;unfold Zyj Dk.bv at this⊢;simp only[Zf];exact this
  hU:=fun k hk=>⟨(h.hU k hk).1,Zm1 (h.hU k hk).2 c.size⟩
  ub:=h.ub,ux:=h.ux,ugb:=h.ugb,ugl:=h.ugl,um:=h.um,uo:=h.uo,dis:=h.dis,dio:=h.dio
  tbl:=h.tbl.chg c hS
  shr:=h.shr.chg c n4 hS
  xok:=h.xok
  ptr:=Rd.chg h.ptr c hS
  mach:=fun p hp=>⟨(h.mach p hp).1.chg c (n7 p hp).2.2.1 hS,(h.mach p hp).2⟩
  box:=by
   have h1:=Own.put (E:=ssE) h.box rfl (i:=k) (by rw[h.lb];exact hk) s (u:=s.v) rfl;show Own ssE _ B (.slice (some ⟨d.gb,0,none⟩) (d.bx.set k s).length d.cb) _;rw[Zf];exact h1
  boxes:=fun j s' l' h1 h2=>by
   by_cases e:k=j
   ·subst e;rw[Zc (by rw[h.lb];exact hk)]at h1;rw[Zc (by rw[h.lbs];exact hk)]at h2;obtain rfl:=Zm6 h1;obtain rfl:=Zm6 h2;exact⟨Rd.chg hr c hS,hl⟩
   rw[Zb e]at h1 h2;exact⟨Rd.chg (h.boxes j s' l' h1 h2).1 c hS,(h.boxes j s' l' h1 h2).2⟩
  lb:=by rw[Zf];exact h.lb
  lbs:=by rw[Zf];exact h.lbs
  ll:=h.ll,lm:=h.lm
  own:=h.own.chg c (fun j hj e=>(h.nov hj).2.2.1 e.symm)
  nms:=fun q hq=>Rd.chg (h.nms q hq) c hS
  lo:=h.lo,n16:=h.n16
  lown:=h.lown.chg c (by intro j hj e;simp only[Dk.lv,Value.ownBlock,Yd]at hj;exact n6 (hj.trans e).symm)}
theorem Ww.setLast(h:Ww w U T b B d){k:Nat}(hk:k<d.ms.length)(z:Int):Ww (w.setCell ⟨d.gl,k,none⟩ (.int .i64 z)) U T b B {d with last:=d.last.set k z}:=by
 have c:Chg (· = d.gl) w (w.setCell ⟨d.gl,k,none⟩ (.int .i64 z)):=(Chg.refl (· = d.gl) w).setCell (p:=⟨d.gl,k,none⟩) (.inl rfl) _;obtain⟨n1,n2,n3,n4,n5,n6,n7⟩:=h.ne;have hS:∀ j,¬ U j→¬ j=d.gl:=fun j hj e=>hj (e▸h.ugl)
 exact {
  cells:=by
   have:=h.cells.chg c n3;unfold Zyj Dk.lv at this⊢;simp only[Zf];exact this
  hU:=fun k hk=>⟨(h.hU k hk).1,Zm1 (h.hU k hk).2 c.size⟩
  ub:=h.ub,ux:=h.ux,ugb:=h.ugb,ugl:=h.ugl,um:=h.um,uo:=h.uo,dis:=h.dis,dio:=h.dio
  tbl:=h.tbl.chg c hS
  shr:=h.shr.chg c n5 hS
  xok:=h.xok
  ptr:=Rd.chg h.ptr c hS
  mach:=fun p hp=>⟨(h.mach p hp).1.chg c (n7 p hp).2.2.2 hS,(h.mach p hp).2⟩
  box:=h.box.chg c (by intro j hj e;simp only[Dk.bv,Value.ownBlock,Yd]at hj;exact n6 (hj.trans e))
  boxes:=fun j s l h1 h2=>⟨Rd.chg (h.boxes j s l h1 h2).1 c hS,(h.boxes j s l h1 h2).2⟩
  lb:=h.lb,lbs:=h.lbs
  ll:=by rw[Zf];exact h.ll
  lm:=h.lm
  own:=h.own.chg c (fun j hj e=>(h.nov hj).2.2.2.1 e.symm)
  nms:=fun q hq=>Rd.chg (h.nms q hq) c hS
  lo:=h.lo,n16:=h.n16
  lown:=by
   have h1:=Own.put (E:=Wi) h.lown rfl (i:=k) (by rw[h.ll];exact hk) z (u:=.int .i64 z) rfl;show Own Wi _ B (.slice (some ⟨d.gl,0,none⟩) (d.last.set k z).length d.cl) _;rw[Zf];exact h1}
theorem Ww.setT(h:Ww w U T b B d)(t:Nat):Ww (w.setCell ⟨b,5,none⟩ (.int .i64 (t:Int))) U T b B {d with t:=t}:=by
 have c:Chg (· = b) w (w.setCell ⟨b,5,none⟩ (.int .i64 (t:Int))):=(Chg.refl (· = b) w).setCell (p:=⟨b,5,none⟩) (.inl rfl) _;obtain⟨n1,n2,n3,n4,n5,n6,n7⟩:=h.ne;have hS:∀ j,¬ U j→¬ j=b:=fun j hj e=>hj (e▸h.ub)
 exact {
  cells:=h.cells.set (j:=5) (by show 5<6;omega) _
  hU:=fun k hk=>⟨(h.hU k hk).1,Zm1 (h.hU k hk).2 c.size⟩
  ub:=h.ub,ux:=h.ux,ugb:=h.ugb,ugl:=h.ugl,um:=h.um,uo:=h.uo,dis:=h.dis,dio:=h.dio
  tbl:=h.tbl.chg c hS
  shr:=h.shr.chg c n1.symm hS
  xok:=h.xok
  ptr:=Rd.chg h.ptr c hS
  mach:=fun p hp=>⟨(h.mach p hp).1.chg c (n7 p hp).1 hS,(h.mach p hp).2⟩
  box:=h.box.chg c (by intro j hj e;simp only[Dk.bv,Value.ownBlock,Yd]at hj;exact n2 (hj.trans e).symm)
  boxes:=fun j s l h1 h2=>⟨Rd.chg (h.boxes j s l h1 h2).1 c hS,(h.boxes j s l h1 h2).2⟩
  lb:=h.lb,lbs:=h.lbs,ll:=h.ll,lm:=h.lm
  own:=h.own.chg c (fun j hj e=>(h.nov hj).1 e.symm)
  nms:=fun q hq=>Rd.chg (h.nms q hq) c hS
  lo:=h.lo,n16:=h.n16
  lown:=h.lown.chg c (by intro j hj e;simp only[Dk.lv,Value.ownBlock,Yd]at hj;exact n3 (hj.trans e).symm)}
theorem Ww.addOp(h:Ww w U T b B d){w':World}{o:OpS}{A:Option Addr}{n c:Nat}(hg:Grew opE w B d.ov (d.ops++[o]) A n c w')(hlen:d.ops.length<4096)(hn:o.1.ns=[])(hv:o.1.nv=.slice none 0 0)(hf:Sc o.1) :
 Ww (w'.setCell ⟨b,3,none⟩ (.slice A n c)) (fun j=>U j∨(Value.slice A n c).ownBlock=some j) T b B {d with ops:=d.ops++[o],ov:=.slice A n c}:=by
 have cg:=hg.chg;have c0:Chg (fun j=>d.ov.ownBlock=some j∨j=b) w (w'.setCell ⟨b,3,none⟩ (.slice A n c)):=(cg.mono fun _ _ e=>.inl e).setCell (p:=⟨b,3,none⟩) (.inl (.inr rfl)) _;obtain⟨n1,n2,n3,n4,n5,n6,n7⟩:=h.ne;have ho:∀ j,(Value.slice A n c).ownBlock=some j→d.ov.ownBlock=some j∨j=w.heap.size:=fun j hj=>by
  rcases hg.at_ with e|e
  ·exact .inl (e▸hj)
  rw[e]at hj;exact .inr (Zm6 hj).symm
 have hUn:∀ j,U j→j≠w.heap.size:=fun j hj=>Zj2 (h.hU j hj).2
 have hS:∀ j,¬ U j→¬ (d.ov.ownBlock=some j∨j=b):=fun j hj e=>by
  rcases e with e|e
  ·exact hj (h.uo j e)
  exact hj (e▸h.ub)
 have hM:∀ j,¬ U j→j<w.heap.size→¬ (U j∨(Value.slice A n c).ownBlock=some j):=fun j hj hl e=>by
  rcases e with e|e
  ·exact hj e
  rcases ho j e with e|e
  ·exact hj (h.uo j e)
  omega
 have mv:∀ {z:Nat} {v:Value} {k:Nat} {xs:List Value},Rd w (fun j=>¬ U j) z v k xs→Rd (w'.setCell ⟨b,3,none⟩ (.slice A n c)) (fun j=>¬ (U j∨(Value.slice A n c).ownBlock=some j)) z v k xs:=fun {z v k xs} hr=>by
  have h1:Rd w (fun j=>¬ U j∧¬ (U j∨(Value.slice A n c).ownBlock=some j)) z v k xs:=Rd.mono hr fun j hj hl=>⟨hj,hM j hj hl⟩
  exact Rd.mono (Rd.chg h1 c0 fun j hj=>hS j hj.1) fun j hj _=>hj.2
 have hsz:=c0.size;have nb:∀ j,(d.ov.ownBlock=some j∨j=b)→d.xb≠j∧d.gb≠j∧d.gl≠j∧∀ p∈d.ms,p.1≠j:=fun j e=>by
  rcases e with e|rfl
  ·have:=h.nov e;exact⟨this.2.1,this.2.2.1,this.2.2.2.1,this.2.2.2.2⟩
  exact⟨n1.symm,n2.symm,n3.symm,fun p hp=>(n7 p hp).1⟩
 have hsub:∀ {q:Nat},U q→q<w.heap.size:=fun hq=>(h.hU _ hq).2
 exact {
  cells:=by
   have hc1:Xo w' b (Zyj d):=h.cells.chg cg fun e=>(h.nov e).1 rfl
   have:=hc1.set (j:=3) (by show 3<6;omega) (.slice A n c);exact this
  hU:=fun k hk=>by
   rcases hk with hk|hk
   ·exact⟨(h.hU k hk).1,Zm1 (h.hU k hk).2 hsz⟩
   have:=hg.own.lt k hk;refine⟨this.1,Zm1 this.2 ?_⟩;exact((Chg.refl (· = b) w').setCell (p:=⟨b,3,none⟩) (.inl rfl) (.slice A n c)).size
  ub:=.inl h.ub,ux:=.inl h.ux,ugb:=.inl h.ugb,ugl:=.inl h.ugl
  um:=fun p hp=>.inl (h.um p hp)
  uo:=fun k hk=>.inr hk
  dis:=h.dis
  dio:=fun k hk=>by
   rcases ho k hk with e|rfl
   ·exact h.dio k e
   intro hm;simp only[Zg]at hm;rcases hm with e|e|e|e|e
   ·exact hUn _ h.ub e.symm
   ·exact hUn _ h.ux e.symm
   ·exact hUn _ h.ugb e.symm
   ·exact hUn _ h.ugl e.symm
   obtain⟨p,hp,e⟩:=Zlw.1 e;exact hUn _ (h.um p hp) e
  tbl:=by
   have h1:=Et h.tbl (fun j hj hl=>(⟨hj,hM j hj hl⟩:¬ U j∧¬ (U j∨(Value.slice A n c).ownBlock=some j)));exact Et (h1.chg c0 fun j hj=>hS j hj.1) fun j hj _=>hj.2
  shr:=⟨h.shr.cells.chg c0 (fun e=>(nb _ e).1 rfl),mv h.shr.ks,mv h.shr.rs⟩
  xok:=h.xok
  ptr:=mv h.ptr
  mach:=fun p hp=>⟨⟨(h.mach p hp).1.cells.chg c0 (fun e=>(nb _ e).2.2.2 p hp rfl),mv (h.mach p hp).1.ns,mv (h.mach p hp).1.rs⟩,(h.mach p hp).2⟩
  box:=h.box.chg c0 (by intro j hj e;simp only[Dk.bv,Value.ownBlock,Yd]at hj;exact(nb _ e).2.1 hj)
  boxes:=fun j s l h1 h2=>⟨mv (h.boxes j s l h1 h2).1,(h.boxes j s l h1 h2).2⟩
  lb:=h.lb,lbs:=h.lbs,ll:=h.ll,lm:=h.lm
  own:=hg.own.far (by
   intro e;rcases ho b e with e|e
   ·exact(h.nov e).1 rfl
   exact hUn _ h.ub e) _
  nms:=fun q hq=>by
   rcases Zj.1 hq with hq|hq
   ·exact mv (h.nms q hq)
   rw[Zi.1 hq,hn,hv];exact Rd.nil _ _ _
  lo:=by rw[Zs];show _+1≤_;omega
  n16:=fun q hq=>by
   rcases Zj.1 hq with hq|hq
   ·exact h.n16 q hq
   rw[Zi.1 hq];exact⟨by rw[hn];simp,hf⟩
  lown:=h.lown.chg c0 (by intro j hj e;simp only[Dk.lv,Value.ownBlock,Yd]at hj;exact(nb _ e).2.2.1 hj)}
end
end
theorem Zzm{ops:Array Oper}{C:World→Prop}{Q:Act→Prop}{rest:List Oper}{dst:Option Nat}{x:Operand}{t:TypeId}{pos:String}{af:Array Edge}{gd:Option (Nat×Bool)}{a:Act}{b p:Nat}{o:Opn}
 (hw:Region.wanted {dst:=dst,op:=.load 55 x,type:=t,pos:=pos,after:=af,guard:=gd} (yielded ops a.tmps)=true) (hx:a.eval x=.pointer (some ⟨b,p,none⟩)) (hC:∀ w',C w'→Ud w' b p o)
 (hK:wpQuiet Tryz.prog ops C Q rest (a.put dst (opV o))):wpQuiet Tryz.prog ops C Q ({dst:=dst,op:=.load 55 x,type:=t,pos:=pos,after:=af,guard:=gd}::rest) a:=by
 have hu:=Zz2;rw[Zlk]at hu;obtain⟨d,hu,hd⟩:=hu;show if _ then _ else _
 rw[Zm4 hw];refine⟨opV o,fun w' hc=>?_,hK⟩;unfold Oper.quietAt execOp;simp only[hx,Instr.loadAt,Instr.sureAddr,Zjw,Zjv,Zkp,run_loadVar_mid w' b p _ (opC o) d (hC w' hc).range hu hd (by rw[Fi];rfl)];exact⟨rfl,rfl⟩
def Zme(o:Opn):Prop:=I64 o.cl∧I64 o.dec∧-9223372036854775808≤o.res.tick∧KS o.ns
def Znp(os:List OpS):Prop:=os.length≤4096∧∀ o∈os,Zme o.1
theorem Sc.fitO{o:Opn}(h:Sc o):Zme o:=by
 obtain⟨h1,h2,h3,h4,h5,h6⟩:=h;exact⟨by unfold I64;omega,by unfold I64;omega,by omega,h5⟩
def NZ(l:List Kp):Prop:=∀ p∈l,p.2.st≠0
theorem Zqb{l:List Kp}(h:NZ l)(k:ByteArray)(r:Rc):NZ (Jn l k r):=by
 intro p hp;rcases Vm.1 hp with⟨hp,_⟩ | ⟨hd,hp⟩
 ·exact h p hp
 subst hp;simpa using hd
theorem Eg(k:ByteArray):∀ l:List Kp,(Wq l k=default∧¬ ∃ p∈l,p.1=k)∨∃ p∈l,p.1=k∧Wq l k=p.2
 | []=>.inl ⟨rfl,by simp⟩
 | p::l=>by
  rw[Wq];by_cases h:p.1=k
  ·exact .inr ⟨p,by simp,h,Zm4 h⟩
  rw[Zm2 h];rcases Eg k l with⟨h1,h2⟩ | ⟨q,h1,h2,h3⟩
  ·exact .inl ⟨h1,by rintro⟨q,hq,e⟩;rcases Zg.1 hq with rfl|hq;exact h e;exact h2 ⟨q,hq,e⟩⟩
  exact .inr ⟨q,by simp[h1],h2,h3⟩
theorem Zs5{l:List Kp}(h:NZ l){k:ByteArray}(hs:(Wq l k).st=0):Wq l k=default:=by
 rcases Eg k l with⟨h1,_⟩ | ⟨p,h1,_,h3⟩
 ·exact h1
 rw[h3]at hs;exact absurd hs (h p h1)
theorem Zp7{l:List Kp}(h:NZ l){k:ByteArray}:(Wq l k).st=0↔¬ ∃ p∈l,p.1=k:=by
 rcases Eg k l with⟨h1,h2⟩ | ⟨p,h1,h2,h3⟩
 ·exact⟨fun _=>h2,fun _=>by rw[h1];rfl⟩
 exact⟨fun hs=>by rw[h3]at hs;exact absurd hs (h p h1),fun hn=>absurd ⟨p,h1,h2⟩ hn⟩
theorem Jb(l:List Kp)(k:ByteArray)(r:Rc):Wq (Jn l k r) k=if r.st=0 then default else r:=by
 unfold Jn;rw[V7];simp
theorem Vx(l:List Kp){k k':ByteArray}(h:k'≠k)(r:Rc):Wq (Jn l k r) k'=Wq l k':=Vn h
abbrev PW(ps:List (Nm×Rc)):Prop:=ps.Pairwise (fun a b=>a.1.k≠b.1.k)
theorem Km(op client dl:Int)(l:List Kp)(p:Nm×Rc)(ps:List (Nm×Rc)):Kh op client dl l (p::ps)=Kh op client dl (Jn l p.1.k (V0 op client dl p.1 p.2)) ps:=rfl
theorem Qd{op client dl:Int}{k:ByteArray}:∀ {ps:List (Nm×Rc)} {l:List Kp},(∀ p∈ps,p.1.k≠k)→Wq (Kh op client dl l ps) k=Wq l k
 | [],_,_=>rfl
 | p::ps,l,h=>by
  rw[Km,Qd (fun q hq=>h q (by simp[hq])),Vx _ (fun e=>h p (by simp) e.symm)]
theorem K9{op client dl:Int}:∀ {ps:List (Nm×Rc)} {l:List Kp},PW ps→∀ p∈ps,Wq (Kh op client dl l ps) p.1.k=if(V0 op client dl p.1 p.2).st=0 then default else V0 op client dl p.1 p.2
 | [],_,_,p,hp=>by simp at hp
 | q::ps,l,h,p,hp=>by
  obtain⟨h1,h2⟩:=Zld.1 h;rw[Km];rcases Zg.1 hp with rfl|hp
  ·rw[Qd (fun x hx=>fun e=>h1 x hx e.symm),Jb]
  exact K9 h2 p hp
theorem Zts:∀ {l:List Nm},srt l=true→l.Pairwise (fun a b=>Uw a<Uw b)
 | [],_=>List.Pairwise.nil
 | [x],_=>by simp
 | x::y::r,h=>by
  rw[srt,Zlp,Zlu]at h;have ih:=Zts h.2;refine Zld.2 ⟨fun z hz=>?_,ih⟩;rcases Zg.1 hz with rfl|hz
  ·exact h.1
  exact Zik h.1 ((Zld.1 ih).1 z hz)
theorem Zqn{l:List Kp}{ns:List Nm}(h:srt ns=true):PW (V8 l ns):=by
 unfold V8 PW;rw[List.pairwise_map];exact(Zts h).imp fun hab e=>by unfold Uw at hab;rw[e]at hab;exact Zk0 _ hab
theorem Nu{cap op client now:Int}:∀ {ps:List (Nm×Rc)} {i:Nat} {c:Int},Vr cap op client now i c ps=none→∀ p∈ps,Vg p.2.st p.2.ow p.2.dl op client now=0
 | [],_,_,_,p,hp=>by simp at hp
 | q::ps,i,c,h,p,hp=>by
  rw[Vr]at h;split at h
  ·rename_i h0;rcases Zg.1 hp with rfl|hp
   ·unfold Zww at h0;split at h0
    ·simp at h0
    exact h0
   exact Nu h p hp
  simp at h
theorem Zrx{cap op client ttl now count:Int}{ps:List (Nm×Rc)}(h:(Wn cap op client ttl now count ps).e=0):Vr cap op client now 0 count ps=none:=by
 unfold Wn at h;split at h
 ·simp at h
 cases hj:Vr cap op client now 0 count ps with
 | none=>rfl
 | some x =>
  obtain⟨e,i,n⟩:=x;rw[hj]at h;simp only at h;exfalso;have:∀ {ps:List (Nm×Rc)} {i:Nat} {c:Int} {e j n},Vr cap op client now i c ps=some (e,j,n)→e≠0:=by
   intro ps
   induction ps with
   | nil=>intro i c e j n h;simp[Vr]at h
   | cons p ps ih =>
    intro i c e j n h;rw[Vr]at h;split at h
    ·exact ih h
    rename_i h0;simp only[Yd,Zij]at h;rw[← h.1];exact h0
  exact this hj h
theorem Zn2{cl cap client op ttl now:Int}{l:List Kp}{ns:List Nm}(h:(doR cl cap l client op ttl now ns).e≠0):doL cl cap l client op ttl now ns=l:=by
 unfold doL;rw[Zm2];rintro⟨hp,h0⟩;unfold doR at h;rw[Zm4 hp]at h;exact h h0
theorem Zn6{cl cap client op ttl now:Int}{l:List Kp}{ns:List Nm}(hz:NZ l):NZ (doL cl cap l client op ttl now ns):=by
 unfold doL;split
 ·have:∀ (ps:List (Nm×Rc)) (l:List Kp),NZ l→NZ (Kh op client (now+ttl) l ps):=by
   intro ps
   induction ps with
   | nil=>intro l h;exact h
   | cons p ps ih=>intro l h;rw[Km];exact ih _ (Zqb h _ _)
  exact this _ _ hz
 exact hz
theorem St(cl cp:Int)(hc:V6 cl cp=0)(w:World):Calls Tryz.prog 63 #[.agg #[.int .i64 cl,.int .i64 cp]] w fun e w' =>
 ∃ rb b m,e=.returned (.pointer (some ⟨rb,0,none⟩))∧Mu w' rb b m cl cp [] 0∧w.heap.size≤rb∧w.heap.size≤m∧Ext w w':=by
 have x0:Ext w (w.alloc (.cells #[.int .i64 cl,.int .i64 cp] 37)):=(Yl w).alloc _;have X0:=Y4 x0;clear x0;go_enter Tryz.func63,Tryz.ntmps63;go_wp2_with fail;refine(Aq cl cp _).mono ?_;rintro x w1 (⟨h0,_⟩ | ⟨_,b,m,rfl,hmod,hb,hm,hx1⟩)
 ·omega
 have hs:=X0.o.size;have hbl:=hmod.lt;have hml:=hmod.map.lt;have HM:=Y4 hmod;have HX:=Y4 (X0.o.trans hx1);have Hb:=Y4 hb;have Hm:=Y4 hm;clear hmod hx1 hb hm;go_wp2_with fail;go_ret;refine⟨w1.heap.size,b,m,rfl,⟨by go_simp,by go_simp,by simp,by omega,by omega,by go_simp,HM.o.ext ((Yl _).alloc _)⟩,HX.o.size,Zm5 hs Hm.o,HX.o.alloc _⟩
abbrev RSt:=List Kp×Int×Bool
def Jo(st:RSt)(o:Opn):Int:=if st.2.2=true∧o.bad.e=0 then o.res.tick else st.2.1
def Qj(st:RSt)(o:Opn):Bool:=if st.2.2=true∧o.bad.e=0 then false else st.2.2
def Qt(cl cp:Int)(st:RSt)(o:Opn):Int×RSt:=((Jk cl cp st.1 (Jo st o) o).1,(Jk cl cp st.1 (Jo st o) o).2.1,(Jk cl cp st.1 (Jo st o) o).2.2,Qj st o)
def Nf(cl cp:Int)(os:List Opn):List Nat→RSt→Option (Nat×Int)
 | [],_=>none
 | i::r,st=>match os[i]? with
  | some o=>if(Qt cl cp st o).1≠0 then some (i,(Qt cl cp st o).1)else Nf cl cp os r (Qt cl cp st o).2
  | none=>none
def stO(cl cp:Int)(os:List Opn)(l:List Nat)(st:RSt):RSt:=l.foldl (fun st i=>match os[i]? with|some o=>(Qt cl cp st o).2|none=>st) st
theorem Zzc{cl cp:Int}{os:List Opn}{l:List Nat}{st:RSt}{k i:Nat}{o:Opn}(hi:l[k]?=some i)(ho:os[i]?=some o):stO cl cp os (l.take (k+1)) st=(Qt cl cp (stO cl cp os (l.take k) st) o).2:=by
 unfold stO;rw[Za,hi,Zjf,Zko];simp[ho]
theorem Ll{cl cp:Int}{os:List Opn}:∀ {l:List Nat} {st:RSt} {k:Nat},(∀ j,j<k→∀ i o,l[j]?=some i→os[i]?=some o→(Qt cl cp (stO cl cp os (l.take j) st) o).1=0)→(∀ i∈l,∃ o,os[i]?=some o)→Nf cl cp os l st=Nf cl cp os (l.drop k) (stO cl cp os (l.take k) st)
 | l,st,0,_,_=>by simp[stO]
 | [],st,k+1,_,_=>by simp[stO]
 | i::r,st,k+1,h,hm=>by
  obtain⟨o,ho⟩:=hm i (Zjy ..);have h0:=h 0 (by omega) i o rfl ho;simp only[Z9,stO,List.foldl_nil]at h0;rw[Nf,ho];simp only[h0,ne_eq,not_true_eq_false,Zi9,Z6];have e:stO cl cp os ((i::r).take (k+1)) st=stO cl cp os (r.take k) (Qt cl cp st o).2:=by simp[stO,ho]
  rw[e];refine Ll (l:=r) (st:=(Qt cl cp st o).2) (k:=k) (fun j hj i' o' h1 h2=>?_) fun x hx=>hm x (Zjq _ hx)
  have:=h (j+1) (by omega) i' o' (by simpa using h1) h2
  rwa [show stO cl cp os ((i::r).take (j+1)) st=stO cl cp os (r.take j) (Qt cl cp st o).2 by simp[stO,ho]]at this
theorem Zzj{cl cp:Int}{os:List Opn}{l:List Nat}{st:RSt}{k i:Nat}{o:Opn}(h:∀ j,j<k→∀ i o,l[j]?=some i→os[i]?=some o→(Qt cl cp (stO cl cp os (l.take j) st) o).1=0)(hm:∀ i∈l,∃ o,os[i]?=some o)(hi:l[k]?=some i)(ho:os[i]?=some o)(he:(Qt cl cp (stO cl cp os (l.take k) st) o).1≠0) :
 Nf cl cp os l st=some (i,(Qt cl cp (stO cl cp os (l.take k) st) o).1):=by
 rw[Ll h hm];have:l.drop k=i::l.drop (k+1):=Ua hi;rw[this,Nf,ho];simp only[Zm4 he]
theorem Zzk{cl cp:Int}{os:List Opn}{l:List Nat}{st:RSt}(h:∀ j,j<l.length→∀ i o,l[j]?=some i→os[i]?=some o→(Qt cl cp (stO cl cp os (l.take j) st) o).1=0)(hm:∀ i∈l,∃ o,os[i]?=some o):Nf cl cp os l st=none:=by
 rw[Ll h hm,List.drop_length];rfl
theorem Zvw{cl cap client op ttl now:Int}{l:List Kp}{ns:List Nm}:(doL cl cap l client op ttl now ns).length≤l.length+16:=by
 unfold doL;split
 ·rename_i h;have hp:Pl cl client op ttl now ns:=Zky h.1;have hlen:(V8 l ns).length≤16:=by rw[Zt1];exact hp.l1
  rw[Zzo];have:=Zzn l (Jg op client (now+ttl) (V8 l ns));have e1:(Jg op client (now+ttl) (V8 l ns)).length=(V8 l ns).length:=by simp[Jg]
  omega
 omega
theorem Zr0{cl cp:Int}{l:List Kp}{t:Int}{o:Opn}:(Jk cl cp l t o).2.1.length≤l.length+16:=by
 unfold Jk;split
 ·simp
 split
 ·simp
 exact Zvw
theorem Zzb{cl cp:Int}{st:RSt}{o:Opn}:(Qt cl cp st o).2.1.length≤st.1.length+16:=Zr0
theorem Gm{ops:Array Oper}{rest:List Oper}{dst:Option Nat}{x:Operand}{t:TypeId}{pos:String}{af:Array Edge}{gd:Option (Nat×Bool)}{a:Act}{w:World}{Q:Exit→Act→World→Prop}{b p:Nat}{o:Opn}(h:Ud w b p o)
 (hw:Region.wanted {dst:=dst,op:=.load 55 x,type:=t,pos:=pos,after:=af,guard:=gd} (yielded ops a.tmps)=true) (hx:a.eval x=.pointer (some ⟨b,p,none⟩)) (hK:wpList Tryz.prog ops Q rest (a.put dst (opV o)) w) :
 wpList Tryz.prog ops Q ({dst:=dst,op:=.load 55 x,type:=t,pos:=pos,after:=af,guard:=gd}::rest) a w:=by
 have hu:=Zz2;rw[Zlk]at hu;obtain⟨d,hu,hd⟩:=hu;show if _ then _ else _
 rw[Zm4 hw];exact .inl (wp_load_mid _ x rfl b p hx (opC o) d h.range hu hd (by rw[Fi];rfl) hK)
theorem Vi.get{w:World}{S:Nat→Prop}{v:Value}{l:List Nat}(h:Vi w S v l){j i:Nat}(hj:l[j]?=some i) :
 ∃ g p c,v=.slice (some ⟨g,p,none⟩) l.length c∧l.length≤c∧c≤maxLen∧S g∧g<w.heap.size∧w.cell? ⟨g,p+j,none⟩=some (.int .i64 (i:Int)):=by
 obtain⟨g,p,c,hv,h1,h2,h3,h4,hc⟩:=h.at_ (Zr.1 hj).1;exact⟨g,p,c,hv,h1,h2,h3,h4,hc j _ (by rw[Zn,hj];rfl)⟩
theorem Vi.shape{w:World}{S:Nat→Prop}{v:Value}{l:List Nat}(h:Vi w S v l):∃ A c,v=.slice A l.length c:=by
 obtain⟨_,A,c,hv,_⟩:=h;exact⟨A,c,hv⟩
def Pm(os:List Opn):Prop:=∀ o∈os,∀ n∈o.ns,n.k.size≤maxLen
structure Zml(w:World)(rb b m:Nat)(cl cp:Int)(os:List Opn)(ord:List Nat)(k:Nat)(st:RSt)(wr:World):Prop where
 rep:Mu wr rb b m cl cp st.1 st.2.1
 is:st=stO cl cp os (ord.take k) ([],0,true)
 few:st.1.length≤16*k
 oks:∀ j,j<k→∀ i o,ord[j]?=some i→os[i]?=some o→(Qt cl cp (stO cl cp os (ord.take j) ([],0,true)) o).1=0
 ext:Ext w wr
 lo:w.heap.size≤rb∧w.heap.size≤m
theorem P8{S T:Nat→Prop}(sb:Nat)(cl cp:Int)(vo vl:Value)(os:List Opn)(ord:List Nat)(w:World)(hc:V6 cl cp=0)(c0:w.cell? ⟨sb,0,none⟩=some (.int .i64 cl))(c1:w.cell? ⟨sb,1,none⟩=some (.int .i64 cp))(c2:w.cell? ⟨sb,2,none⟩=some vo)(c6:w.cell? ⟨sb,6,none⟩=some vl)
 (ho:V5 w S vo os) (hk:Pm os) (hl:Vi w T vl ord) (hlen:ord.length≤6000) (hm:∀ i∈ord,∃ o,os[i]?=some o) :
 Calls Tryz.prog 96 #[.pointer (some ⟨sb,0,none⟩)] w fun e w'=>e=.returned (.bool (Nf cl cp os ord ([],0,true)).isNone)∧Ext w w':=by
 obtain⟨A,C,rfl⟩:=ho.shape;obtain⟨A2,C2,rfl⟩:=hl.shape;have hsb:=lt_of_cell c0;obtain⟨n,hnn⟩:=gnX (os.length);obtain⟨q,hqq⟩:=gnX (ord.length);have Hnn:=Y4 hnn;have Hqq:=Y4 hqq;have Ho:=Y4 (ho.mono (T:=fun k=>k<w.heap.size) fun k _ hk=>hk);have Hl:=Y4 hl;have Hk:=Y4 hk;have Hm:=Y4 hm;rw[hnn]at c2;rw[hqq]at c6 hlen;have C2w:=Y4 c2;have C6w:=Y4 c6;clear hnn hqq ho hl hk hm;go_enter Tryz.func96,Tryz.ntmps96;go_wp2_with fail;refine(St cl cp hc _).mono ?_;rintro x w1 ⟨rb,b,m,rfl,hrep,hlo1,hlo2,hx1⟩;replace c2:=(hx1.cell (p:=⟨sb,2,none⟩) hsb).trans c2;replace c6:=(hx1.cell (p:=⟨sb,6,none⟩) hsb).trans c6;have hsb1:=Zm1 hsb hx1.size;have hI:Zml w rb b m cl cp os ord 0 ([],0,true) w1:=⟨hrep,rfl,by simp,fun j hj=>by omega,hx1,hlo1,hlo2⟩;have HI:=Y4 hI;clear hrep hlo1 hlo2 hx1 hI c0 c1;go_wp2_with fail;go_loopw [4,18] (fun f o wr=>∃ (k:Nat) (st:RSt),k≤q∧o=.int .i64 (k:Int)∧f=.bool st.2.2∧Zml w rb b m cl cp os ord k st wr) (fun _ o _=>q-(intOf o).toNat);case atStart=>exact⟨0,_,by omega,rfl,rfl,HI.o⟩
 obtain⟨k,st,hkq,rfl,rfl,hI⟩:=hrel;have HI2:=Y4 hI;clear hI HI;by_cases hkl:k<q
 ·have hd:decide ((k:Int)<(q:Int))=true:=by simp;omega
  obtain⟨i,hi⟩:=geX (l:=ord) (i:=k) (by rw[Hqq.o];exact hkl);obtain⟨o,hoi⟩:=Hm.o i (Zy hi);have xw:=HI2.o.ext;obtain⟨g2,p2,c2',hv2,l1,l2,_,hg2,hcell⟩:=(show Vi wr T _ ord from Rd.ext Hl.o xw).get hi;obtain⟨g,p,c,hv,hc1,hc2,hgS,hA,hN⟩:=(Ho.o.ext xw).get hoi;simp only[Ye]at hv hv2;obtain⟨rfl,_,rfl⟩:=hv;obtain⟨rfl,_,rfl⟩:=hv2;have e2:=(xw.cell (p:=⟨sb,2,none⟩) hsb).trans C2w.o;have ha1:c2=c2:=rfl;rw[Hnn.o]at hc1;rw[Hqq.o]at l1;have hin:i<n:=by rw[← Hnn.o];exact(Zr.1 hoi).1
  have q1:(0:Int)≤(i:Int):=by omega
  have q2:(i:Int)<(n:Int):=by omega
  have hC:C≤9223372036854775807:=by unfold maxLen at hc2;omega
  have hC2:C2≤9223372036854775807:=by unfold maxLen at l2;omega
  have hnsh:=hN.shape;obtain⟨nA,nC,hnv⟩:=hnsh;have hone:o.nv.oneCell'=true:=by rw[hnv];rfl
  have Hi:=Y4 hi;have Hoi:=Y4 hoi;have HA:=Y4 hA;have HN:=Y4 hN;clear hi hoi hA hN hnv ha1;go_upto_region 7 with(first|(refine Wj HA.o rfl ?_)|(refine V9 rfl rfl rfl hone ?_));have hN1:=Nl wr o;have xA:Ext wr (wr.alloc (opO o)):=(Yl wr).alloc _;obtain⟨e,he⟩:=gnX (wr.heap.size);obtain⟨W1,hW1⟩:=gnX (wr.alloc (opO o));rw[hW1]at hN1 xA⊢;rw[he]at hN1;simp only[he];have hml:=HI2.o.rep.mod.map.lt;have hrl:=HI2.o.rep.lt;have hem:e≠m∧e≠rb:=by omega
  have HN1:=Y4 hN1;have XA:=Y4 xA;have Hem:=Y4 hem;clear hN1 xA hW1 he hem e2 hcell;try go_frame
  go_cut [4,29,30,34] (fun f f1 f2 v wx=>f=.bool st.2.2∧f1=.bool st.2.2∧f2=.bool st.2.2∧v=.bool (st.2.2&&(o.bad.e==0))∧Ext W1 wx);case first =>
   cases hf:st.2.2 with
   | false =>
    go_wp2_with fail;go_meet;exact⟨by rw[hf],by rw[hf],by rw[hf],by rw[hf];rfl,Yl _⟩
   | true =>
    go_wp2_with (first|(refine Gm HN1.o rfl rfl ?_)|(go_at_call 64;refine(Dz o _).mono ?_;rintro x w3 ⟨rfl,hx3⟩));go_meet;exact⟨by rw[hf],by rw[hf],by rw[hf],by rw[hf];simp[bne],hx3⟩
  obtain⟨rfl,rfl,rfl,rfl,hx3⟩:=hcut;have hI3:=HI2.o.rep.ext (XA.o.trans hx3);have hN3:=HN1.o.ext hx3;have HN3:=Y4 hN3;have HX3:=Y4 ((HI2.o.ext.trans XA.o).trans hx3);have HNm:=Y4 (Rd.ext HN.o (XA.o.trans hx3));have HR3:=Y4 hI3;have z22:wc.cell? ⟨e,22,none⟩=some (.int .i64 o.res.tick):=hN3.2 22 (by omega);have r1:=hI3.c1;have rz:=hI3.z1;clear hx3 hN3 hI3;go_upto_if 34 with fail;go_cut [4] (fun v wx=>v=.bool (Qj st o)∧Mu wx rb b m cl cp st.1 (Jo st o)∧Ud wx e 0 o∧Ext w wx∧Vo wx (fun k=>k<w.heap.size) o.nv o.ns);case first =>
   cases hq:(st.2.2&&(o.bad.e==0))with
   | false =>
    have h1:¬ (st.2.2=true∧o.bad.e=0):=by simpa using hq
    have H1:=Y4 (show Jo st o=st.2.1 by unfold Jo;rw[Zm2 h1]);have H2:=Y4 (show Qj st o=st.2.2 by unfold Qj;rw[Zm2 h1]);clear h1;go_wp2_with fail;go_meet;exact⟨by rw[H2.o],by rw[H1.o];exact HR3.o,HN3.o,HX3.o,HNm.o⟩
   | true =>
    have h1:st.2.2=true∧o.bad.e=0:=by simpa using hq
    have H1:=Y4 (show Jo st o=o.res.tick by unfold Jo;rw[Zm4 h1]);have H2:=Y4 (show Qj st o=false by unfold Qj;rw[Zm4 h1]);clear h1 hq;go_wp2_with fail;go_meet;have hc:Chg (· = rb) wc (wc.setCell ⟨rb,1,none⟩ (.int .i64 o.res.tick)):=(Chg.refl (· = rb) wc).setCell (.inl rfl) _;refine⟨by rw[H2.o],?_,HN3.o.chg hc Hem.o.2,HX3.o.chg_new hc (fun i hi=>by rw[hi];exact HI2.o.lo.1),Rd.chg HNm.o hc (fun i hi e=>by have:=HI2.o.lo.1;omega)⟩;rw[H1.o];exact⟨(Zln _ _ _ _ (by simp)).trans HR3.o.c0,Zl6 _ _ _ r1,Zm1 HR3.o.lt hc.size,HR3.o.nb,HR3.o.nm,(Zlf _ _ _ _).trans rz,HR3.o.mod.chg hc (fun h=>HR3.o.nb h.symm) (fun h=>HR3.o.nm h.symm)⟩
  obtain⟨rfl,hR4,hN4,hx4,hn4⟩:=hcut;have HN4:=Y4 hN4;have hks:=Hk.o o (Zy Hoi.o);have hfew:=HI2.o.few;have HP:=Y4 (Ls (S:=fun k=>k<w.heap.size) rb b m cl cp st.1 (Jo st o) o wc hR4 (by omega) hn4 hks (by have:=HI2.o.lo.2;omega) (by have:=HI2.o.lo.1;omega));have HX4:=Y4 hx4;clear hR4 hN4 hx4 hn4 hks z22 r1 rz HR3 HN3;go_wp2_with (refine Wj HN4.o rfl ?_);refine Zkf HP.o ?_;rintro x w5 ⟨rfl,hR5,hc5⟩;have hx5:=HX4.o.chg_new hc5 (fun i hi=>by rcases hi with rfl|rfl;exact HI2.o.lo.2;exact HI2.o.lo.1);obtain⟨code,hcode⟩:=gnX ((Jk cl cp st.1 (Jo st o) o).1);have Hcode:=Y4 (show(Qt cl cp st o).1=code from hcode);have HR5:=Y4 hR5;have HX5:=Y4 hx5;rw[hcode];clear hcode hR5 hc5 hx5;by_cases h0:code=0
  ·have hz:(code !=0)=false:=by simp[h0]
   have H0:=Y4 h0;clear h0;go_wp2_with fail;go_roundw;case rel =>
    refine⟨k+1,(Qt cl cp st o).2,by omega,by go_num,rfl,HR5.o,?_,?_,fun j hj i' o' h1 h2=>?_,HX5.o,HI2.o.lo⟩
    ·rw[Zzc Hi.o Hoi.o,← HI2.o.is]
    ·have:=Zzb (cl:=cl) (cp:=cp) (st:=st) (o:=o);omega
    by_cases ej:j=k
    ·subst ej;have e1:i'=i:=by rw[Hi.o]at h1;exact(Zm6 h1).symm
     subst e1;have e2:o'=o:=by rw[Hoi.o]at h2;exact(Zm6 h2).symm
     subst e2;rw[← HI2.o.is,Hcode.o,H0.o]
    exact HI2.o.oks j (by omega) i' o' h1 h2
   case measure=>simp[intOf];omega
  have hz:(code !=0)=true:=by simp[h0]
  have HE:=Y4 (show(Nf cl cp os ord ([],0,true)).isNone=false by
   rw[Zzj HI2.o.oks Hm.o Hi.o Hoi.o (by rw[← HI2.o.is,Hcode.o];exact h0)];rfl)
  clear h0;go_wp2_with fail;go_ret;rw[HE.o];exact⟨rfl,HX5.o⟩
 have hd:decide ((k:Int)<(q:Int))=false:=by simp;omega
 have HE:=Y4 (show(Nf cl cp os ord ([],0,true)).isNone=true by
  rw[Zzk (fun j hj=>HI2.o.oks j (by rw[Hqq.o]at hj;omega)) Hm.o];rfl)
 go_wp2_with fail;go_ret;rw[HE.o];exact⟨rfl,HI2.o.ext⟩
theorem Znp.fits{os:List OpS}(h:Znp os):∀ o∈os.map Subtype.val,o.fits:=fun o ho=>by
 obtain⟨x,hx,rfl⟩:=Zlw.1 ho;exact⟨(h.2 x hx).1,(h.2 x hx).2.1⟩
theorem Znp.keys{os:List OpS}(h:Znp os):Pm (os.map Subtype.val):=fun o ho n hn=>by
 obtain⟨x,hx,rfl⟩:=Zlw.1 ho;have:=(h.2 x hx).2.2.2 n hn;unfold maxLen;omega
end Go.Proofs.YtnbclgbicnpmnaaGreat
