/- Lemmas of this claim: Perf, Start, Expl. Conditions: as named. -/
import Derived.Test.YtnbclgbicnpmnaaGreatA02
import Derived.Test.YtnbclgbicnpmnaaGreatA03
import Derived.Test.YtnbclgbicnpmnaaGreatA10
import Derived.Test.YtnbclgbicnpmnaaGreatA15
import Derived.Test.YtnbclgbicnpmnaaGreatA21
namespace Go.Proofs.YtnbclgbicnpmnaaGreat
open Go.RowKit Go.Sort
set_option maxHeartbeats 0
set_option maxRecDepth 100000
set_option linter.all false
section
def Jg(a b:Ay):Bool:=a.e==b.e&&(a.at_==b.at_&&(a.nm.toList==b.nm.toList&&((a.rc.st==b.rc.st&&(a.rc.ow==b.rc.ow&&(a.rc.nm.toList==b.rc.nm.toList&&a.rc.dl==b.rc.dl)))&&a.tick==b.tick)))
theorem J2(a b:Ay)(w:World):(binOp .neq 53 (Wy a) (Wy b)).run Tryz.prog w=.ok (.bool (!Jg a b)) w:=by
 unfold Wy;go_simp;repeat' split
 all_goals simp_all [Jg]
def G9(r:Ay):List Value:=[.int .i64 r.e,.int .i64 r.at_,.string r.nm,.int .i64 r.rc.st,.int .i64 r.rc.ow,.string r.rc.nm,.int .i64 r.rc.dl,.int .i64 r.tick]
theorem Ry:(Tryz.prog.underlying 53).map TypeDesc.isRow=some true:=by kernel_rfl
theorem Fa:(Tryz.prog.info? 53).map (·.size)=some 8:=by kernel_rfl
theorem Kc.resR{w:World}{b p:Nat}{o:Opn}(h:Kc w b p o):w.rangeAt b (p+15) (G9 o.res):=fun j v hv=>by
 have hj:j<8:=by have:=(Zr.1 hv).1;exact this
 rw[Zki,h.2 (15+j) (by omega),← hv];rcases(show j=0∨j=1∨j=2∨j=3∨j=4∨j=5∨j=6∨j=7 by omega)with rfl|rfl|rfl|rfl|rfl|rfl|rfl|rfl<;>rfl
theorem Kc.badR{w:World}{b p:Nat}{o:Opn}(h:Kc w b p o):w.rangeAt b (p+4) (G9 o.bad):=fun j v hv=>by
 have hj:j<8:=by have:=(Zr.1 hv).1;exact this
 rw[Zki,h.2 (4+j) (by omega),← hv];rcases(show j=0∨j=1∨j=2∨j=3∨j=4∨j=5∨j=6∨j=7 by omega)with rfl|rfl|rfl|rfl|rfl|rfl|rfl|rfl<;>rfl
section
variable {ops:Array Oper} {rest:List Oper} {dst:Option Nat} {x y:Operand} {t:TypeId} {pos:String} {af:Array Edge} {a:Act} {w:World} {Q:Exit→Act→World→Prop} {b p:Nat} {r:Ay}
theorem Tq{w:World}{b p:Nat}{r:Ay}(h:w.rangeAt b p (G9 r)):(Instr.loadAt 53 (.pointer (some ⟨b,p,none⟩))).run Tryz.prog w=.ok (Wy r) w:=by
 have hu:=Ry;rw[Zl0]at hu;obtain⟨d,hu,hd⟩:=hu;exact run_loadAt_mid w b p _ (G9 r) d h hu hd (by rw[Fa];rfl)
theorem Wg(h:w.rangeAt b p (G9 r))(hx:a.eval x=.pointer (some ⟨b,p,none⟩))(hK:wpList Tryz.prog ops Q rest (a.put dst (Wy r)) w) :
 wpList Tryz.prog ops Q ({dst:=dst,op:=.load 53 x,type:=t,pos:=pos,after:=af,guard:=none}::rest) a w:=by
 have hu:=Ry;rw[Zl0]at hu;obtain⟨d,hu,hd⟩:=hu;exact Zhq rfl _ x rfl b p hx (G9 r) d h hu hd (by rw[Fa];rfl) hK
theorem Eb(x y:Operand)(r1 r2:Ay)(w:World):(eqGuard .neq 53 x y (Wy r1) (Wy r2)).run Tryz.prog w=.ok () w:=run_eqGuard_agg (P:=Tryz.prog) w .neq 53 x y _ _ (by kernel_rfl)
theorem Q4{r1 r2:Ay}{s:TypeId}(hx:a.eval x=Wy r1)(hy:a.eval y=Wy r2)(hK:wpList Tryz.prog ops Q rest (a.put dst (.bool (!Jg r1 r2))) w) :
 wpList Tryz.prog ops Q ({dst:=dst,op:=.binOp .neq 53 x y s,type:=t,pos:=pos,after:=af,guard:=none}::rest) a w:=by
 refine Zip rfl fun _ hK'=>?_
 unfold Oper.wp execOp;simp only[hx,hy,Zk1,Eb,J2,Zkw,Zk2];exact hK' _ _ hK
end
theorem Zze{ops:Array Oper}{S:World→Prop}{op:Oper}{a:Act}(hw:Region.wanted op (yielded ops a.tmps)=true){x:Operand}(ho:op.op=.load 53 x)(b p:Nat)(hx:a.eval x=.pointer (some ⟨b,p,none⟩))(r:Ay)(hS:∀ w,S w→w.rangeAt b p (G9 r)):YieldsIf Tryz.prog ops S op (Wy r) a:=by
 have hu:=Ry;rw[Zl0]at hu;obtain⟨d,hu,hd⟩:=hu;exact yieldsIf_load_mid hw _ x ho b p hx (G9 r) d hS hu hd (by rw[Fa];rfl)
theorem Zzf{ops:Array Oper}{S:World→Prop}{op:Oper}{a:Act}(hw:Region.wanted op (yielded ops a.tmps)=true){x y:Operand}{s:TypeId}(ho:op.op=.binOp .neq 53 x y s){r1 r2:Ay}(hx:a.eval x=Wy r1)(hy:a.eval y=Wy r2):YieldsIf Tryz.prog ops S op (.bool (!Jg r1 r2)) a :=
 .inl ⟨hw,fun w _=>by
  unfold execOp;simp only[ho,hx,hy,Zk1,Eb,J2,Zkw,Zk2]⟩
theorem Dv(o:Opn)(w:World):Calls Tryz.prog 64 #[opV o] w fun e w'=>e=.returned (.bool (o.bad.e !=0))∧Ext w w':=Zzx o w
structure Mf(w:World)(rb b m:Nat)(cl cp:Int)(l:List Kp)(tick:Int):Prop where
 c0:w.cell? ⟨rb,0,none⟩=some (.pointer (some ⟨b,0,none⟩))
 c1:w.cell? ⟨rb,1,none⟩=some (.int .i64 tick)
 lt:rb<w.heap.size
 nb:rb≠b
 nm:rb≠m
 z1:w.frozen? ⟨rb,1,none⟩=false
 mod:Br w b m cl cp l
theorem Mf.ext{w w':World}{rb b m:Nat}{cl cp:Int}{l:List Kp}{tick:Int}(h:Mf w rb b m cl cp l tick)(x:Ext w w'):Mf w' rb b m cl cp l tick :=
 ⟨(x.cell (p:=⟨rb,0,none⟩) h.lt).trans h.c0,(x.cell (p:=⟨rb,1,none⟩) h.lt).trans h.c1,Zlr h.lt x.size,h.nb,h.nm,(x.frozen (p:=⟨rb,1,none⟩) h.lt).trans h.z1,h.mod.ext x⟩
def J6(cl cp:Int)(l:List Kp)(tick:Int)(o:Opn):Int×List Kp×Int :=
 if o.bad.e≠0 then(if Jg o.res o.bad then 0 else 26,l,tick)
 else if o.res.tick<tick then(3,l,tick)
 else(if Jg (doR cl cp l o.cl o.op o.ttl o.res.tick o.ns) o.res then 0 else 26,doL cl cp l o.cl o.op o.ttl o.res.tick o.ns,o.res.tick)
def Ub(rb b m:Nat)(cl cp:Int)(l:List Kp)(tick:Int)(o:Opn)(w:World)(e:Ending)(w':World):Prop :=
 e=.returned (.int .i64 (J6 cl cp l tick o).1)∧Mf w' rb b m cl cp (J6 cl cp l tick o).2.1 (J6 cl cp l tick o).2.2∧Chg (fun k=>k=m∨k=rb) w w'
theorem Lj{S:Nat→Prop}(rb b m:Nat)(cl cp:Int)(l:List Kp)(tick:Int)(o:Opn)(w:World)(h:Mf w rb b m cl cp l tick)(hl:l.length≤100000)(hn:Wf w S o.nv o.ns)(hks:∀ n∈o.ns,n.k.size≤maxLen)(hm:¬ S m)(hrb:¬ S rb) :
 Calls Tryz.prog 65 #[.pointer (some ⟨rb,0,none⟩),opV o] w (Ub rb b m cl cp l tick o w):=by
 have hx1:Ext w (w.alloc (opO o)):=(Yn w).alloc _;have hN:=Un w o;have hne:=J2 o.res o.bad;have H1:=Ya (h.ext hx1);have Hn1:=Ya (Rd.ext hn hx1);have Hx1:=Ya hx1;have HN:=Ya hN;have Hlt:=Ya h.lt;have Hml:=Ya h.mod.map.lt;clear hx1 hN h hn;have hbox:opO o=.cells #[.int .i64 o.cl,.int .i64 o.op,.int .i64 o.ttl,o.nv,.int .i64 o.bad.e,.int .i64 o.bad.at_,.string o.bad.nm,.int .i64 o.bad.rc.st,.int .i64 o.bad.rc.ow,.string o.bad.rc.nm,.int .i64 o.bad.rc.dl,.int .i64 o.bad.tick,.int .i64 o.begun,.int .i64 o.dec,.int .i64 o.ans,.int .i64 o.res.e,.int .i64 o.res.at_,.string o.res.nm,.int .i64 o.res.rc.st,.int .i64 o.res.rc.ow,.string o.res.rc.nm,.int .i64 o.res.rc.dl,.int .i64 o.res.tick] 55:=rfl;have Hbox:=Ya hbox;clear hbox;unfold opV;go_enter Tryz.func65,Tryz.ntmps65;go_upto_region 1 with fail;rw[← Hbox.o];go_wp2_with (refine Xh HN.o rfl ?_);refine(Dv o _).mono ?_;rintro x w2 ⟨rfl,hx2⟩;have h2:=H1.o.ext hx2;have hN2:=HN.o.ext hx2;have Hn2:=Ya (Rd.ext Hn1.o hx2);have Hx2:=Ya (Hx1.o.trans hx2);have hes:w.heap.size<w2.heap.size:=Zlr (by simp) hx2.size;obtain⟨e,he⟩:=gnX (w.heap.size);have Hlt2:=Ya (show rb<e by have:=Hlt.o;omega);rw[he]at hN2 hes;simp only[he];have HN2:=Ya hN2;have H2:=Ya h2;have He:=Ya he;clear hN2 h2 hx2 Hx1 H1 HN Hn1 Hlt he;by_cases hb:o.bad.e=0
 ·have hbq:(o.bad.e !=0)=false:=by simp[hb]
  rw[hbq];have Hb:=Ya hb;clear hb hbq;have r0:=H2.o.c0;have r1:=H2.o.c1;have rz:=H2.o.z1;have e22:w2.cell? ⟨e,22,none⟩=some (.int .i64 o.res.tick):=HN2.o.2 22 (by omega);by_cases ht:o.res.tick<tick
  ·have hd:decide (o.res.tick<tick)=true:=by simpa using ht
   have HP:=Ya (show J6 cl cp l tick o=(3,l,tick) by unfold J6;rw[Zlq (by have:=Hb.o;omega),Zlm ht]);go_wp2_with fail;go_region;go_wp2_with fail;go_ret;unfold Ub;rw[HP.o];exact⟨rfl,H2.o.ext (Yn _).drew,(Hx2.o.drew).chg _⟩
  have hd:decide (o.res.tick<tick)=false:=by simpa using ht
  have HP:=Ya (show J6 cl cp l tick o=(if Jg (doR cl cp l o.cl o.op o.ttl o.res.tick o.ns) o.res then 0 else 26,doL cl cp l o.cl o.op o.ttl o.res.tick o.ns,o.res.tick) by unfold J6;rw[Zlq (by have:=Hb.o;omega),Zlq ht]);go_wp2_with fail;go_region;go_upto_region 8 with fail;have hc3:Chg (· = rb) w2 (w2.setCell ⟨rb,1,none⟩ (.int .i64 o.res.tick)).drew:=((Chg.refl (· = rb) w2).setCell (.inl rfl) _).drew;have g0:(w2.setCell ⟨rb,1,none⟩ (.int .i64 o.res.tick)).drew.cell? ⟨rb,0,none⟩=some (.pointer (some ⟨b,0,none⟩)):=(Zl3 _ _ _ _ (by simp)).trans r0;have g1:(w2.setCell ⟨rb,1,none⟩ (.int .i64 o.res.tick)).drew.cell? ⟨rb,1,none⟩=some (.int .i64 o.res.tick):=Zkn _ _ _ r1;obtain⟨w3,hw3⟩:=gnX ((w2.setCell ⟨rb,1,none⟩ (.int .i64 o.res.tick)).drew);rw[hw3]at hc3 g0 g1⊢;have hne3:rb≠e:=by have:=Hlt2.o;omega
  have hN3:=HN2.o.chg hc3 (fun h=>hne3 h.symm);have hmod3:=H2.o.mod.chg hc3 (fun h=>H2.o.nb h.symm) (fun h=>H2.o.nm h.symm);have Hn3:=Ya (Rd.chg Hn2.o hc3 (fun k hk e=>hrb (e▸hk)));have hz3:w3.frozen? ⟨rb,1,none⟩=false:=by rw[← hw3];exact(Zkz _ _ _ _).trans rz
  have k0:w3.cell? ⟨e,0,none⟩=some (.int .i64 o.cl):=hN3.2 0 (by omega);have k1:w3.cell? ⟨e,1,none⟩=some (.int .i64 o.op):=hN3.2 1 (by omega);have k2:w3.cell? ⟨e,2,none⟩=some (.int .i64 o.ttl):=hN3.2 2 (by omega);have k3:w3.cell? ⟨e,3,none⟩=some o.nv:=hN3.2 3 (by omega);have k22:w3.cell? ⟨e,22,none⟩=some (.int .i64 o.res.tick):=hN3.2 22 (by omega);have kr:w3.rangeAt e 15 (G9 o.res):=by have:=hN3.resR;rwa [Zle]at this
  have hel:e<w3.heap.size:=hN3.1;have hrl:rb<w3.heap.size:=Zlr H2.o.lt hc3.size;have HC3:=Ya ((Hx2.o.chg (fun k=>k=m∨k=rb)).trans (hc3.mono fun k _ h=>.inr h));have HM3:=Ya hmod3;have hnm:=H2.o.nm;have hnb:=H2.o.nb;have hml:=hmod3.map.lt;have hem:e≠m:=by have:=He.o;have:=Hml.o;omega
  refine Zli (S:=fun w'=>w'.cell? ⟨rb,0,none⟩=some (.pointer (some ⟨b,0,none⟩))∧w'.cell? ⟨e,0,none⟩=some (.int .i64 o.cl)∧w'.cell? ⟨e,1,none⟩=some (.int .i64 o.op)∧w'.cell? ⟨e,2,none⟩=some (.int .i64 o.ttl)∧w'.cell? ⟨e,3,none⟩=some o.nv∧w'.cell? ⟨e,22,none⟩=some (.int .i64 o.res.tick)∧w'.rangeAt e 15 (G9 o.res)) (by kernel_rfl) ⟨g0,k0,k1,k2,k3,k22,kr⟩ (fun hHeld=>?_);refine Xz [0,1,2,3,4,5,6,7,8,9,10,11,12,13,14,16] 3 (by rfl) (by kernel_rfl) (by kernel_rfl) (fun _ _ d _ _ h=>by cases d<;>exact h) (by assumption) ?_;simp only[Z1,Z2,Z3,Zw,Zx];repeat(refine Xw (v:=?_) (by kernel_rfl) ?_ ?_;rotate_left;(focus((intro w hSw;(try dsimp only at hSw);go_simp);(first|done|(with_reducible rfl))));(try simp only[Act.put]);(try simp only[Zv]))
  refine Xv ?_;refine Zkh (i := 17) (oi := { dst := some 43, op := Op.load 53 (Operand.tmp 42), type := 53, pos := "history.go:92", after := #[{ on := 16, ground := Ground.data }], guard := none }) (v := Wy o.res) rfl (by kernel_rfl) (by kernel_rfl) (by kernel_rfl) (fun _ _ _ h => h) ?hy17 (by assumption) ?_;case hy17=>exact Zze (x:=Operand.tmp 42) rfl rfl e 15 (by simp [Act.eval];done) o.res fun w h=>h.2.2.2.2.2.2
  (try simp only[Act.put]);(try simp only[Zv])
  refine Zlp (rs:=[15]) (by kernel_rfl) (by simp) ?_;refine Yt (o:=_) rfl (fun K hK=>?_) Ys;go_simp;refine(Zo8 b m cl cp o.cl o.op o.ttl o.res.tick l o.nv o.ns _ (HM3.o.ext (Yn w3).drew) hl hks (S:=S) (Rd.drew Hn3.o) hm).mono ?_;rintro x w4 ⟨rfl,hmod4,hc4⟩;replace hc4:Chg (· = m) w3 w4:=((Yn w3).drew.chg (· = m)).trans hc4;have j0:=(hc4.cell (p:=⟨rb,0,none⟩) hrl hnm).trans g0;have j1:=(hc4.cell (p:=⟨rb,1,none⟩) hrl hnm).trans g1;have jz:=(hc4.frozen (p:=⟨rb,1,none⟩) hrl hnm).trans hz3;replace k0:=(hc4.cell (p:=⟨e,0,none⟩) hel hem).trans k0;replace k1:=(hc4.cell (p:=⟨e,1,none⟩) hel hem).trans k1;replace k2:=(hc4.cell (p:=⟨e,2,none⟩) hel hem).trans k2;replace k3:=(hc4.cell (p:=⟨e,3,none⟩) hel hem).trans k3;replace k22:=(hc4.cell (p:=⟨e,22,none⟩) hel hem).trans k22;replace kr:w4.rangeAt e 15 (G9 o.res):=fun j v hv=>(hc4.cell (p:=⟨e,15+j,none⟩) hel hem).trans (kr j v hv)
  have HR4:=Ya (show Mf w4 rb b m cl cp (doL cl cp l o.cl o.op o.ttl o.res.tick o.ns) o.res.tick from⟨j0,j1,Zlr hrl hc4.size,hnb,hnm,jz,hmod4⟩);have HC4:=Ya (HC3.o.trans (hc4.mono fun k _ h=>.inl h));obtain⟨R,hR⟩:=gnX (doR cl cp l o.cl o.op o.ttl o.res.tick o.ns);have HRe:=Ya hR;rw[hR];clear hR hc4 hmod4 g0 g1 hz3 HM3 HC3 hN3 hmod3;(try go_wp2_with fail);refine hK.out _ _ ?_ (fun hHeld=>?_);(focus((try dsimp only);(first|done|go_keep)));clear hK K;try simp only[Act.put,Zv,Zu,Zt]
  refine Zkh (i := 18) (oi := { dst := some 44, op := Op.binOp BinOp.neq 53 (Operand.tmp 41) (Operand.tmp 43) 53, type := 4, pos := "history.go:92", after := #[{ on := 15, ground := Ground.data }, { on := 17, ground := Ground.data }], guard := none }) (v := .bool (!Jg R o.res)) rfl (by kernel_rfl) (by kernel_rfl) (by kernel_rfl) (fun _ _ _ h => h) ?hy18 (by assumption) ?_;case hy18=>exact Zzf (x:=Operand.tmp 41) (y:=Operand.tmp 43) rfl rfl (by simp [Act.eval];done) (by simp [Act.eval];done)
  (try simp only[Act.put]);(try simp only[Zv])
  refine Zlb (by kernel_rfl) ?_ _;clear hHeld k0 k1 k2 k3 k22 kr j0 j1 jz;cases hq:Jg R o.res with
  | true =>
   go_wp2_with fail;go_ret;unfold Ub;rw[HP.o,HRe.o,hq];exact⟨rfl,HR4.o,HC4.o⟩
  | false =>
   go_wp2_with fail;go_ret;unfold Ub;rw[HP.o,HRe.o,hq];exact⟨rfl,HR4.o,HC4.o⟩
 have hbq:(o.bad.e !=0)=true:=by simp[hb]
 have hr:=HN2.o.resR;have hbd:=HN2.o.badR;rw[hbq];cases hq:Jg o.res o.bad with
 | true =>
  have HP:=Ya (show J6 cl cp l tick o=(0,l,tick) by unfold J6;rw[Zlm hb,Zlm hq]);go_wp2_with (first|(refine Wg hr rfl ?_)|(refine Wg hbd rfl ?_)|(refine Q4 rfl rfl ?_;rw[hq]));go_ret;unfold Ub;rw[HP.o];exact⟨rfl,H2.o,Hx2.o.chg _⟩
 | false =>
  have HP:=Ya (show J6 cl cp l tick o=(26,l,tick) by unfold J6;rw[Zlm hb,Zlq (by rw[hq];simp)]);go_wp2_with (first|(refine Wg hr rfl ?_)|(refine Wg hbd rfl ?_)|(refine Q4 rfl rfl ?_;rw[hq]));go_ret;unfold Ub;rw[HP.o];exact⟨rfl,H2.o,Hx2.o.chg _⟩
end
theorem Tm(cl cp:Int)(hc:Vc cl cp=0)(w:World):Calls Tryz.prog 63 #[.agg #[.int .i64 cl,.int .i64 cp]] w fun e w' =>
 ∃ rb b m,e=.returned (.pointer (some ⟨rb,0,none⟩))∧Mf w' rb b m cl cp [] 0∧w.heap.size≤rb∧w.heap.size≤m∧Ext w w':=by
 have x0:Ext w (w.alloc (.cells #[.int .i64 cl,.int .i64 cp] 37)):=(Yn w).alloc _;have X0:=Ya x0;clear x0;go_enter Tryz.func63,Tryz.ntmps63;go_wp2_with fail;refine(Ae cl cp _).mono ?_;rintro x w1 (⟨h0,_⟩ | ⟨_,b,m,rfl,hmod,hb,hm,hx1⟩)
 ·omega
 have hs:=X0.o.size;have hbl:=hmod.lt;have hml:=hmod.map.lt;have HM:=Ya hmod;have HX:=Ya (X0.o.trans hx1);have Hb:=Ya hb;have Hm:=Ya hm;clear hmod hx1 hb hm;go_wp2_with fail;go_ret;refine⟨w1.heap.size,b,m,rfl,⟨by go_simp,by go_simp,by simp,by omega,by omega,by go_simp,HM.o.ext ((Yn _).alloc _)⟩,HX.o.size,Zlo hs Hm.o,HX.o.alloc _⟩
abbrev RSt:=List Kp×Int×Bool
def Kq(st:RSt)(o:Opn):Int:=if st.2.2=true∧o.bad.e=0 then o.res.tick else st.2.1
def Ql(st:RSt)(o:Opn):Bool:=if st.2.2=true∧o.bad.e=0 then false else st.2.2
def Qy(cl cp:Int)(st:RSt)(o:Opn):Int×RSt:=((J6 cl cp st.1 (Kq st o) o).1,(J6 cl cp st.1 (Kq st o) o).2.1,(J6 cl cp st.1 (Kq st o) o).2.2,Ql st o)
def Iu(cl cp:Int)(os:List Opn):List Nat→RSt→Option (Nat×Int)
 | [],_=>none
 | i::r,st=>match os[i]? with
  | some o=>if(Qy cl cp st o).1≠0 then some (i,(Qy cl cp st o).1)else Iu cl cp os r (Qy cl cp st o).2
  | none=>none
def stO(cl cp:Int)(os:List Opn)(l:List Nat)(st:RSt):RSt:=l.foldl (fun st i=>match os[i]? with|some o=>(Qy cl cp st o).2|none=>st) st
theorem P3{cl cp:Int}{os:List Opn}{l:List Nat}{st:RSt}{k i:Nat}{o:Opn}(hi:l[k]?=some i)(ho:os[i]?=some o):stO cl cp os (l.take (k+1)) st=(Qy cl cp (stO cl cp os (l.take k) st) o).2:=by
 unfold stO;rw[Za,hi,Zix,Zjn];simp[ho]
theorem L8{cl cp:Int}{os:List Opn}:∀ {l:List Nat} {st:RSt} {k:Nat},(∀ j,j<k→∀ i o,l[j]?=some i→os[i]?=some o→(Qy cl cp (stO cl cp os (l.take j) st) o).1=0)→(∀ i∈l,∃ o,os[i]?=some o)→Iu cl cp os l st=Iu cl cp os (l.drop k) (stO cl cp os (l.take k) st)
 | l,st,0,_,_=>by simp[stO]
 | [],st,k+1,_,_=>by simp[stO]
 | i::r,st,k+1,h,hm=>by
  obtain⟨o,ho⟩:=hm i (Zje ..);have h0:=h 0 (by omega) i o rfl ho;simp only[Z7,stO,List.foldl_nil]at h0;rw[Iu,ho];simp only[h0,ne_eq,not_true_eq_false,Zhk,Z4];have e:stO cl cp os ((i::r).take (k+1)) st=stO cl cp os (r.take k) (Qy cl cp st o).2:=by simp[stO,ho]
  rw[e];refine L8 (l:=r) (st:=(Qy cl cp st o).2) (k:=k) (fun j hj i' o' h1 h2=>?_) fun x hx=>hm x (Zj4 _ hx)
  have:=h (j+1) (by omega) i' o' (by simpa using h1) h2
  rwa [show stO cl cp os ((i::r).take (j+1)) st=stO cl cp os (r.take j) (Qy cl cp st o).2 by simp[stO,ho]]at this
theorem P0{cl cp:Int}{os:List Opn}{l:List Nat}{st:RSt}{k i:Nat}{o:Opn}(h:∀ j,j<k→∀ i o,l[j]?=some i→os[i]?=some o→(Qy cl cp (stO cl cp os (l.take j) st) o).1=0)(hm:∀ i∈l,∃ o,os[i]?=some o)(hi:l[k]?=some i)(ho:os[i]?=some o)(he:(Qy cl cp (stO cl cp os (l.take k) st) o).1≠0) :
 Iu cl cp os l st=some (i,(Qy cl cp (stO cl cp os (l.take k) st) o).1):=by
 rw[L8 h hm];have:l.drop k=i::l.drop (k+1):=U9 hi;rw[this,Iu,ho];simp only[Zlm he]
theorem Pa{cl cp:Int}{os:List Opn}{l:List Nat}{st:RSt}(h:∀ j,j<l.length→∀ i o,l[j]?=some i→os[i]?=some o→(Qy cl cp (stO cl cp os (l.take j) st) o).1=0)(hm:∀ i∈l,∃ o,os[i]?=some o):Iu cl cp os l st=none:=by
 rw[L8 h hm,List.drop_length];rfl
theorem Zv4{cl cap client op ttl now:Int}{l:List Kp}{ns:List Nm}:(doL cl cap l client op ttl now ns).length≤l.length+16:=by
 unfold doL;split
 ·rename_i h;have hp:Nu cl client op ttl now ns:=Zjl h.1;have hlen:(Vs l ns).length≤16:=by rw[Tb];exact hp.l1
  rw[Zyl];have:=Zyj l (Ja op client (now+ttl) (Vs l ns));have e1:(Ja op client (now+ttl) (Vs l ns)).length=(Vs l ns).length:=by simp[Ja]
  omega
 omega
theorem Zqd{cl cp:Int}{l:List Kp}{t:Int}{o:Opn}:(J6 cl cp l t o).2.1.length≤l.length+16:=by
 unfold J6;split
 ·simp
 split
 ·simp
 exact Zv4
theorem P4{cl cp:Int}{st:RSt}{o:Opn}:(Qy cl cp st o).2.1.length≤st.1.length+16:=Zqd
theorem Gl{ops:Array Oper}{rest:List Oper}{dst:Option Nat}{x:Operand}{t:TypeId}{pos:String}{af:Array Edge}{gd:Option (Nat×Bool)}{a:Act}{w:World}{Q:Exit→Act→World→Prop}{b p:Nat}{o:Opn}(h:Kc w b p o)
 (hw:Region.wanted {dst:=dst,op:=.load 55 x,type:=t,pos:=pos,after:=af,guard:=gd} (yielded ops a.tmps)=true) (hx:a.eval x=.pointer (some ⟨b,p,none⟩)) (hK:wpList Tryz.prog ops Q rest (a.put dst (opV o)) w) :
 wpList Tryz.prog ops Q ({dst:=dst,op:=.load 55 x,type:=t,pos:=pos,after:=af,guard:=gd}::rest) a w:=by
 have hu:=Ol;rw[Zl0]at hu;obtain⟨d,hu,hd⟩:=hu;show if _ then _ else _
 rw[Zlm hw];exact .inl (Zhf _ x rfl b p hx (opC o) d h.range hu hd (by rw[Jx];rfl) hK)
theorem Vg.get{w:World}{S:Nat→Prop}{v:Value}{l:List Nat}(h:Vg w S v l){j i:Nat}(hj:l[j]?=some i) :
 ∃ g p c,v=.slice (some ⟨g,p,none⟩) l.length c∧l.length≤c∧c≤maxLen∧S g∧g<w.heap.size∧w.cell? ⟨g,p+j,none⟩=some (.int .i64 (i:Int)):=by
 obtain⟨g,p,c,hv,h1,h2,h3,h4,hc⟩:=h.at_ (Zr.1 hj).1;exact⟨g,p,c,hv,h1,h2,h3,h4,hc j _ (by rw[Zn,hj];rfl)⟩
theorem Vg.shape{w:World}{S:Nat→Prop}{v:Value}{l:List Nat}(h:Vg w S v l):∃ A c,v=.slice A l.length c:=by
 obtain⟨_,A,c,hv,_⟩:=h;exact⟨A,c,hv⟩
def Ir(os:List Opn):Prop:=∀ o∈os,∀ n∈o.ns,n.k.size≤maxLen
structure Zm9(w:World)(rb b m:Nat)(cl cp:Int)(os:List Opn)(ord:List Nat)(k:Nat)(st:RSt)(wr:World):Prop where
 rep:Mf wr rb b m cl cp st.1 st.2.1
 is:st=stO cl cp os (ord.take k) ([],0,true)
 few:st.1.length≤16*k
 oks:∀ j,j<k→∀ i o,ord[j]?=some i→os[i]?=some o→(Qy cl cp (stO cl cp os (ord.take j) ([],0,true)) o).1=0
 ext:Ext w wr
 lo:w.heap.size≤rb∧w.heap.size≤m
theorem Sy{S T:Nat→Prop}(sb:Nat)(cl cp:Int)(vo vl:Value)(os:List Opn)(ord:List Nat)(w:World)(hc:Vc cl cp=0)(c0:w.cell? ⟨sb,0,none⟩=some (.int .i64 cl))(c1:w.cell? ⟨sb,1,none⟩=some (.int .i64 cp))(c2:w.cell? ⟨sb,2,none⟩=some vo)(c6:w.cell? ⟨sb,6,none⟩=some vl)
 (ho:Vy w S vo os) (hk:Ir os) (hl:Vg w T vl ord) (hlen:ord.length≤6000) (hm:∀ i∈ord,∃ o,os[i]?=some o) :
 Calls Tryz.prog 96 #[.pointer (some ⟨sb,0,none⟩)] w fun e w'=>e=.returned (.bool (Iu cl cp os ord ([],0,true)).isNone)∧Ext w w':=by
 obtain⟨A,C,rfl⟩:=ho.shape;obtain⟨A2,C2,rfl⟩:=hl.shape;have hsb:=lt_of_cell c0;obtain⟨n,hnn⟩:=gnX (os.length);obtain⟨q,hqq⟩:=gnX (ord.length);have Hnn:=Ya hnn;have Hqq:=Ya hqq;have Ho:=Ya (ho.mono (T:=fun k=>k<w.heap.size) fun k _ hk=>hk);have Hl:=Ya hl;have Hk:=Ya hk;have Hm:=Ya hm;rw[hnn]at c2;rw[hqq]at c6 hlen;have C2w:=Ya c2;have C6w:=Ya c6;clear hnn hqq ho hl hk hm;go_enter Tryz.func96,Tryz.ntmps96;go_wp2_with fail;refine(Tm cl cp hc _).mono ?_;rintro x w1 ⟨rb,b,m,rfl,hrep,hlo1,hlo2,hx1⟩;replace c2:=(hx1.cell (p:=⟨sb,2,none⟩) hsb).trans c2;replace c6:=(hx1.cell (p:=⟨sb,6,none⟩) hsb).trans c6;have hsb1:=Zlr hsb hx1.size;have hI:Zm9 w rb b m cl cp os ord 0 ([],0,true) w1:=⟨hrep,rfl,by simp,fun j hj=>by omega,hx1,hlo1,hlo2⟩;have HI:=Ya hI;clear hrep hlo1 hlo2 hx1 hI c0 c1;go_wp2_with fail;go_loopw [4,18] (fun f o wr=>∃ (k:Nat) (st:RSt),k≤q∧o=.int .i64 (k:Int)∧f=.bool st.2.2∧Zm9 w rb b m cl cp os ord k st wr) (fun _ o _=>q-(intOf o).toNat);case atStart=>exact⟨0,_,by omega,rfl,rfl,HI.o⟩
 obtain⟨k,st,hkq,rfl,rfl,hI⟩:=hrel;have HI2:=Ya hI;clear hI HI;by_cases hkl:k<q
 ·have hd:decide ((k:Int)<(q:Int))=true:=by simp;omega
  obtain⟨i,hi⟩:=geX (l:=ord) (i:=k) (by rw[Hqq.o];exact hkl);obtain⟨o,hoi⟩:=Hm.o i (Zy hi);have xw:=HI2.o.ext;obtain⟨g2,p2,c2',hv2,l1,l2,_,hg2,hcell⟩:=(show Vg wr T _ ord from Rd.ext Hl.o xw).get hi;obtain⟨g,p,c,hv,hc1,hc2,hgS,hA,hN⟩:=(Ho.o.ext xw).get hoi;simp only[Yg]at hv hv2;obtain⟨rfl,_,rfl⟩:=hv;obtain⟨rfl,_,rfl⟩:=hv2;have e2:=(xw.cell (p:=⟨sb,2,none⟩) hsb).trans C2w.o;have ha1:c2=c2:=rfl;rw[Hnn.o]at hc1;rw[Hqq.o]at l1;have hin:i<n:=by rw[← Hnn.o];exact(Zr.1 hoi).1
  have q1:(0:Int)≤(i:Int):=by omega
  have q2:(i:Int)<(n:Int):=by omega
  have hC:C≤9223372036854775807:=by unfold maxLen at hc2;omega
  have hC2:C2≤9223372036854775807:=by unfold maxLen at l2;omega
  have hnsh:=hN.shape;obtain⟨nA,nC,hnv⟩:=hnsh;have hone:o.nv.oneCell'=true:=by rw[hnv];rfl
  have Hi:=Ya hi;have Hoi:=Ya hoi;have HA:=Ya hA;have HN:=Ya hN;clear hi hoi hA hN hnv ha1;go_upto_region 7 with(first|(refine Xh HA.o rfl ?_)|(refine Wl rfl rfl rfl hone ?_));have hN1:=Un wr o;have xA:Ext wr (wr.alloc (opO o)):=(Yn wr).alloc _;obtain⟨e,he⟩:=gnX (wr.heap.size);obtain⟨W1,hW1⟩:=gnX (wr.alloc (opO o));rw[hW1]at hN1 xA⊢;rw[he]at hN1;simp only[he];have hml:=HI2.o.rep.mod.map.lt;have hrl:=HI2.o.rep.lt;have hem:e≠m∧e≠rb:=by omega
  have HN1:=Ya hN1;have XA:=Ya xA;have Hem:=Ya hem;clear hN1 xA hW1 he hem e2 hcell;try go_frame
  go_cut [4,29,30,34] (fun f f1 f2 v wx=>f=.bool st.2.2∧f1=.bool st.2.2∧f2=.bool st.2.2∧v=.bool (st.2.2&&(o.bad.e==0))∧Ext W1 wx);case first =>
   cases hf:st.2.2 with
   | false =>
    go_wp2_with fail;go_meet;exact⟨by rw[hf],by rw[hf],by rw[hf],by rw[hf];rfl,Yn _⟩
   | true =>
    go_wp2_with (first|(refine Gl HN1.o rfl rfl ?_)|(go_at_call 64;refine(Dv o _).mono ?_;rintro x w3 ⟨rfl,hx3⟩));go_meet;exact⟨by rw[hf],by rw[hf],by rw[hf],by rw[hf];simp[bne],hx3⟩
  obtain⟨rfl,rfl,rfl,rfl,hx3⟩:=hcut;have hI3:=HI2.o.rep.ext (XA.o.trans hx3);have hN3:=HN1.o.ext hx3;have HN3:=Ya hN3;have HX3:=Ya ((HI2.o.ext.trans XA.o).trans hx3);have HNm:=Ya (Rd.ext HN.o (XA.o.trans hx3));have HR3:=Ya hI3;have z22:wc.cell? ⟨e,22,none⟩=some (.int .i64 o.res.tick):=hN3.2 22 (by omega);have r1:=hI3.c1;have rz:=hI3.z1;clear hx3 hN3 hI3;go_upto_if 34 with fail;go_cut [4] (fun v wx=>v=.bool (Ql st o)∧Mf wx rb b m cl cp st.1 (Kq st o)∧Kc wx e 0 o∧Ext w wx∧Wf wx (fun k=>k<w.heap.size) o.nv o.ns);case first =>
   cases hq:(st.2.2&&(o.bad.e==0))with
   | false =>
    have h1:¬ (st.2.2=true∧o.bad.e=0):=by simpa using hq
    have H1:=Ya (show Kq st o=st.2.1 by unfold Kq;rw[Zlq h1]);have H2:=Ya (show Ql st o=st.2.2 by unfold Ql;rw[Zlq h1]);clear h1;go_wp2_with fail;go_meet;exact⟨by rw[H2.o],by rw[H1.o];exact HR3.o,HN3.o,HX3.o,HNm.o⟩
   | true =>
    have h1:st.2.2=true∧o.bad.e=0:=by simpa using hq
    have H1:=Ya (show Kq st o=o.res.tick by unfold Kq;rw[Zlm h1]);have H2:=Ya (show Ql st o=false by unfold Ql;rw[Zlm h1]);clear h1 hq;go_wp2_with fail;go_meet;have hc:Chg (· = rb) wc (wc.setCell ⟨rb,1,none⟩ (.int .i64 o.res.tick)):=(Chg.refl (· = rb) wc).setCell (.inl rfl) _;refine⟨by rw[H2.o],?_,HN3.o.chg hc Hem.o.2,HX3.o.chg_new hc (fun i hi=>by rw[hi];exact HI2.o.lo.1),Rd.chg HNm.o hc (fun i hi e=>by have:=HI2.o.lo.1;omega)⟩;rw[H1.o];exact⟨(Zl3 _ _ _ _ (by simp)).trans HR3.o.c0,Zkn _ _ _ r1,Zlr HR3.o.lt hc.size,HR3.o.nb,HR3.o.nm,(Zkz _ _ _ _).trans rz,HR3.o.mod.chg hc (fun h=>HR3.o.nb h.symm) (fun h=>HR3.o.nm h.symm)⟩
  obtain⟨rfl,hR4,hN4,hx4,hn4⟩:=hcut;have HN4:=Ya hN4;have hks:=Hk.o o (Zy Hoi.o);have hfew:=HI2.o.few;have HP:=Ya (Lj (S:=fun k=>k<w.heap.size) rb b m cl cp st.1 (Kq st o) o wc hR4 (by omega) hn4 hks (by have:=HI2.o.lo.2;omega) (by have:=HI2.o.lo.1;omega));have HX4:=Ya hx4;clear hR4 hN4 hx4 hn4 hks z22 r1 rz HR3 HN3;go_wp2_with (refine Xh HN4.o rfl ?_);refine Zk6 HP.o ?_;rintro x w5 ⟨rfl,hR5,hc5⟩;have hx5:=HX4.o.chg_new hc5 (fun i hi=>by rcases hi with rfl|rfl;exact HI2.o.lo.2;exact HI2.o.lo.1);obtain⟨code,hcode⟩:=gnX ((J6 cl cp st.1 (Kq st o) o).1);have Hcode:=Ya (show(Qy cl cp st o).1=code from hcode);have HR5:=Ya hR5;have HX5:=Ya hx5;rw[hcode];clear hcode hR5 hc5 hx5;by_cases h0:code=0
  ·have hz:(code !=0)=false:=by simp[h0]
   have H0:=Ya h0;clear h0;go_wp2_with fail;go_roundw;case rel =>
    refine⟨k+1,(Qy cl cp st o).2,by omega,by go_num,rfl,HR5.o,?_,?_,fun j hj i' o' h1 h2=>?_,HX5.o,HI2.o.lo⟩
    ·rw[P3 Hi.o Hoi.o,← HI2.o.is]
    ·have:=P4 (cl:=cl) (cp:=cp) (st:=st) (o:=o);omega
    by_cases ej:j=k
    ·subst ej;have e1:i'=i:=by rw[Hi.o]at h1;exact(Zlj h1).symm
     subst e1;have e2:o'=o:=by rw[Hoi.o]at h2;exact(Zlj h2).symm
     subst e2;rw[← HI2.o.is,Hcode.o,H0.o]
    exact HI2.o.oks j (by omega) i' o' h1 h2
   case measure=>simp[intOf];omega
  have hz:(code !=0)=true:=by simp[h0]
  have HE:=Ya (show(Iu cl cp os ord ([],0,true)).isNone=false by
   rw[P0 HI2.o.oks Hm.o Hi.o Hoi.o (by rw[← HI2.o.is,Hcode.o];exact h0)];rfl)
  clear h0;go_wp2_with fail;go_ret;rw[HE.o];exact⟨rfl,HX5.o⟩
 have hd:decide ((k:Int)<(q:Int))=false:=by simp;omega
 have HE:=Ya (show(Iu cl cp os ord ([],0,true)).isNone=true by
  rw[Pa (fun j hj=>HI2.o.oks j (by rw[Hqq.o]at hj;omega)) Hm.o];rfl)
 go_wp2_with fail;go_ret;rw[HE.o];exact⟨rfl,HI2.o.ext⟩
end Go.Proofs.YtnbclgbicnpmnaaGreat
