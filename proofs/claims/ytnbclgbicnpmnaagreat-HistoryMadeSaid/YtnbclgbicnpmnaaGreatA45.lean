/- Lemmas of this claim. Conditions: as named. -/
import Derived.Test.YtnbclgbicnpmnaaGreatA02
import Derived.Test.YtnbclgbicnpmnaaGreatA03
import Derived.Test.YtnbclgbicnpmnaaGreatA08
import Derived.Test.YtnbclgbicnpmnaaGreatA15
import Derived.Test.YtnbclgbicnpmnaaGreatA44
namespace Go.Proofs.YtnbclgbicnpmnaaGreat
open Go.RowKit Go.Sort
set_option maxHeartbeats 0
set_option maxRecDepth 100000
set_option linter.all false
section
def Jd(a b:Ad):Bool:=a.e==b.e&&(a.at_==b.at_&&(a.nm.toList==b.nm.toList&&((a.rc.st==b.rc.st&&(a.rc.ow==b.rc.ow&&(a.rc.nm.toList==b.rc.nm.toList&&a.rc.dl==b.rc.dl)))&&a.tick==b.tick)))
theorem J7(a b:Ad)(w:World):(binOp .neq 53 (Wu a) (Wu b)).run Tryz.prog w=.ok (.bool (!Jd a b)) w:=by
 unfold Wu;go_simp;repeat' split
 all_goals simp_all [Jd]
def Bp(r:Ad):List Value:=[.int .i64 r.e,.int .i64 r.at_,.string r.nm,.int .i64 r.rc.st,.int .i64 r.rc.ow,.string r.rc.nm,.int .i64 r.rc.dl,.int .i64 r.tick]
theorem Rl:(Tryz.prog.underlying 53).map TypeDesc.isRow=some true:=by kernel_rfl
theorem Lu:(Tryz.prog.info? 53).map (·.size)=some 8:=by kernel_rfl
theorem K5.resR{w:World}{b p:Nat}{o:Opn}(h:K5 w b p o):w.rangeAt b (p+15) (Bp o.res):=fun j v hv=>by
 have hj:j<8:=by have:=(Zr.1 hv).1;exact this
 rw[Zkf,h.2 (15+j) (by omega),← hv];rcases(show j=0∨j=1∨j=2∨j=3∨j=4∨j=5∨j=6∨j=7 by omega)with rfl|rfl|rfl|rfl|rfl|rfl|rfl|rfl<;>rfl
theorem K5.badR{w:World}{b p:Nat}{o:Opn}(h:K5 w b p o):w.rangeAt b (p+4) (Bp o.bad):=fun j v hv=>by
 have hj:j<8:=by have:=(Zr.1 hv).1;exact this
 rw[Zkf,h.2 (4+j) (by omega),← hv];rcases(show j=0∨j=1∨j=2∨j=3∨j=4∨j=5∨j=6∨j=7 by omega)with rfl|rfl|rfl|rfl|rfl|rfl|rfl|rfl<;>rfl
section
variable {ops:Array Oper} {rest:List Oper} {dst:Option Nat} {x y:Operand} {t:TypeId} {pos:String} {af:Array Edge} {a:Act} {w:World} {Q:Exit→Act→World→Prop} {b p:Nat} {r:Ad}
theorem Td{w:World}{b p:Nat}{r:Ad}(h:w.rangeAt b p (Bp r)):(Instr.loadAt 53 (.pointer (some ⟨b,p,none⟩))).run Tryz.prog w=.ok (Wu r) w:=by
 have hu:=Rl;rw[Zl9]at hu;obtain⟨d,hu,hd⟩:=hu;exact run_loadAt_mid w b p _ (Bp r) d h hu hd (by rw[Lu];rfl)
theorem Wc(h:w.rangeAt b p (Bp r))(hx:a.eval x=.pointer (some ⟨b,p,none⟩))(hK:wpList Tryz.prog ops Q rest (a.put dst (Wu r)) w) :
 wpList Tryz.prog ops Q ({dst:=dst,op:=.load 53 x,type:=t,pos:=pos,after:=af,guard:=none}::rest) a w:=by
 have hu:=Rl;rw[Zl9]at hu;obtain⟨d,hu,hd⟩:=hu;exact Zhn rfl _ x rfl b p hx (Bp r) d h hu hd (by rw[Lu];rfl) hK
theorem Dr(x y:Operand)(r1 r2:Ad)(w:World):(eqGuard .neq 53 x y (Wu r1) (Wu r2)).run Tryz.prog w=.ok () w:=run_eqGuard_agg (P:=Tryz.prog) w .neq 53 x y _ _ (by kernel_rfl)
theorem Q9{r1 r2:Ad}{s:TypeId}(hx:a.eval x=Wu r1)(hy:a.eval y=Wu r2)(hK:wpList Tryz.prog ops Q rest (a.put dst (.bool (!Jd r1 r2))) w) :
 wpList Tryz.prog ops Q ({dst:=dst,op:=.binOp .neq 53 x y s,type:=t,pos:=pos,after:=af,guard:=none}::rest) a w:=by
 refine Zil rfl fun _ hK'=>?_
 unfold Oper.wp execOp;simp only[hx,hy,Zjt,Dr,J7,Zki,Zjs];exact hK' _ _ hK
end
theorem Zz8{ops:Array Oper}{S:World→Prop}{op:Oper}{a:Act}(hw:Region.wanted op (yielded ops a.tmps)=true){x:Operand}(ho:op.op=.load 53 x)(b p:Nat)(hx:a.eval x=.pointer (some ⟨b,p,none⟩))(r:Ad)(hS:∀ w,S w→w.rangeAt b p (Bp r)):YieldsIf Tryz.prog ops S op (Wu r) a:=by
 have hu:=Rl;rw[Zl9]at hu;obtain⟨d,hu,hd⟩:=hu;exact yieldsIf_load_mid hw _ x ho b p hx (Bp r) d hS hu hd (by rw[Lu];rfl)
theorem Zz7{ops:Array Oper}{S:World→Prop}{op:Oper}{a:Act}(hw:Region.wanted op (yielded ops a.tmps)=true){x y:Operand}{s:TypeId}(ho:op.op=.binOp .neq 53 x y s){r1 r2:Ad}(hx:a.eval x=Wu r1)(hy:a.eval y=Wu r2):YieldsIf Tryz.prog ops S op (.bool (!Jd r1 r2)) a :=
 .inl ⟨hw,fun w _=>by
  unfold execOp;simp only[ho,hx,hy,Zjt,Dr,J7,Zki,Zjs]⟩
theorem Dg(o:Opn)(w:World):Calls Tryz.prog 64 #[opV o] w fun e w'=>e=.returned (.bool (o.bad.e !=0))∧Ext w w':=Zzl o w
structure Nv(w:World)(rb b m:Nat)(cl cp:Int)(l:List Kp)(tick:Int):Prop where
 c0:w.cell? ⟨rb,0,none⟩=some (.pointer (some ⟨b,0,none⟩))
 c1:w.cell? ⟨rb,1,none⟩=some (.int .i64 tick)
 lt:rb<w.heap.size
 nb:rb≠b
 nm:rb≠m
 z1:w.frozen? ⟨rb,1,none⟩=false
 mod:Bh w b m cl cp l
theorem Nv.ext{w w':World}{rb b m:Nat}{cl cp:Int}{l:List Kp}{tick:Int}(h:Nv w rb b m cl cp l tick)(x:Ext w w'):Nv w' rb b m cl cp l tick :=
 ⟨(x.cell (p:=⟨rb,0,none⟩) h.lt).trans h.c0,(x.cell (p:=⟨rb,1,none⟩) h.lt).trans h.c1,Zll h.lt x.size,h.nb,h.nm,(x.frozen (p:=⟨rb,1,none⟩) h.lt).trans h.z1,h.mod.ext x⟩
def Kx(cl cp:Int)(l:List Kp)(tick:Int)(o:Opn):Int×List Kp×Int :=
 if o.bad.e≠0 then(if Jd o.res o.bad then 0 else 26,l,tick)
 else if o.res.tick<tick then(3,l,tick)
 else(if Jd (doR cl cp l o.cl o.op o.ttl o.res.tick o.ns) o.res then 0 else 26,doL cl cp l o.cl o.op o.ttl o.res.tick o.ns,o.res.tick)
def Gt(rb b m:Nat)(cl cp:Int)(l:List Kp)(tick:Int)(o:Opn)(w:World)(e:Ending)(w':World):Prop :=
 e=.returned (.int .i64 (Kx cl cp l tick o).1)∧Nv w' rb b m cl cp (Kx cl cp l tick o).2.1 (Kx cl cp l tick o).2.2∧Chg (fun k=>k=m∨k=rb) w w'
theorem Mz{S:Nat→Prop}(rb b m:Nat)(cl cp:Int)(l:List Kp)(tick:Int)(o:Opn)(w:World)(h:Nv w rb b m cl cp l tick)(hl:l.length≤100000)(hn:Wb w S o.nv o.ns)(hks:∀ n∈o.ns,n.k.size≤maxLen)(hm:¬ S m)(hrb:¬ S rb) :
 Calls Tryz.prog 65 #[.pointer (some ⟨rb,0,none⟩),opV o] w (Gt rb b m cl cp l tick o w):=by
 have hx1:Ext w (w.alloc (opO o)):=(Yn w).alloc _;have hN:=K9 w o;have hne:=J7 o.res o.bad;have H1:=Ya (h.ext hx1);have Hn1:=Ya (Rd.ext hn hx1);have Hx1:=Ya hx1;have HN:=Ya hN;have Hlt:=Ya h.lt;have Hml:=Ya h.mod.map.lt;clear hx1 hN h hn;have hbox:opO o=.cells #[.int .i64 o.cl,.int .i64 o.op,.int .i64 o.ttl,o.nv,.int .i64 o.bad.e,.int .i64 o.bad.at_,.string o.bad.nm,.int .i64 o.bad.rc.st,.int .i64 o.bad.rc.ow,.string o.bad.rc.nm,.int .i64 o.bad.rc.dl,.int .i64 o.bad.tick,.int .i64 o.begun,.int .i64 o.dec,.int .i64 o.ans,.int .i64 o.res.e,.int .i64 o.res.at_,.string o.res.nm,.int .i64 o.res.rc.st,.int .i64 o.res.rc.ow,.string o.res.rc.nm,.int .i64 o.res.rc.dl,.int .i64 o.res.tick] 55:=rfl;have Hbox:=Ya hbox;clear hbox;unfold opV;go_enter Tryz.func65,Tryz.ntmps65;go_upto_region 1 with fail;rw[← Hbox.o];go_wp2_with (refine Xl HN.o rfl ?_);refine(Dg o _).mono ?_;rintro x w2 ⟨rfl,hx2⟩;have h2:=H1.o.ext hx2;have hN2:=HN.o.ext hx2;have Hn2:=Ya (Rd.ext Hn1.o hx2);have Hx2:=Ya (Hx1.o.trans hx2);have hes:w.heap.size<w2.heap.size:=Zll (by simp) hx2.size;obtain⟨e,he⟩:=gnX (w.heap.size);have Hlt2:=Ya (show rb<e by have:=Hlt.o;omega);rw[he]at hN2 hes;simp only[he];have HN2:=Ya hN2;have H2:=Ya h2;have He:=Ya he;clear hN2 h2 hx2 Hx1 H1 HN Hn1 Hlt he;by_cases hb:o.bad.e=0
 ·have hbq:(o.bad.e !=0)=false:=by simp[hb]
  rw[hbq];have Hb:=Ya hb;clear hb hbq;have r0:=H2.o.c0;have r1:=H2.o.c1;have rz:=H2.o.z1;have e22:w2.cell? ⟨e,22,none⟩=some (.int .i64 o.res.tick):=HN2.o.2 22 (by omega);by_cases ht:o.res.tick<tick
  ·have hd:decide (o.res.tick<tick)=true:=by simpa using ht
   have HP:=Ya (show Kx cl cp l tick o=(3,l,tick) by unfold Kx;rw[Zlk (by have:=Hb.o;omega),Zlg ht]);go_wp2_with fail;go_region;go_wp2_with fail;go_ret;unfold Gt;rw[HP.o];exact⟨rfl,H2.o.ext (Yn _).drew,(Hx2.o.drew).chg _⟩
  have hd:decide (o.res.tick<tick)=false:=by simpa using ht
  have HP:=Ya (show Kx cl cp l tick o=(if Jd (doR cl cp l o.cl o.op o.ttl o.res.tick o.ns) o.res then 0 else 26,doL cl cp l o.cl o.op o.ttl o.res.tick o.ns,o.res.tick) by unfold Kx;rw[Zlk (by have:=Hb.o;omega),Zlk ht]);go_wp2_with fail;go_region;go_upto_region 8 with fail;have hc3:Chg (· = rb) w2 (w2.setCell ⟨rb,1,none⟩ (.int .i64 o.res.tick)).drew:=((Chg.refl (· = rb) w2).setCell (.inl rfl) _).drew;have g0:(w2.setCell ⟨rb,1,none⟩ (.int .i64 o.res.tick)).drew.cell? ⟨rb,0,none⟩=some (.pointer (some ⟨b,0,none⟩)):=(Zkz _ _ _ _ (by simp)).trans r0;have g1:(w2.setCell ⟨rb,1,none⟩ (.int .i64 o.res.tick)).drew.cell? ⟨rb,1,none⟩=some (.int .i64 o.res.tick):=Zkj _ _ _ r1;obtain⟨w3,hw3⟩:=gnX ((w2.setCell ⟨rb,1,none⟩ (.int .i64 o.res.tick)).drew);rw[hw3]at hc3 g0 g1⊢;have hne3:rb≠e:=by have:=Hlt2.o;omega
  have hN3:=HN2.o.chg hc3 (fun h=>hne3 h.symm);have hmod3:=H2.o.mod.chg hc3 (fun h=>H2.o.nb h.symm) (fun h=>H2.o.nm h.symm);have Hn3:=Ya (Rd.chg Hn2.o hc3 (fun k hk e=>hrb (e▸hk)));have hz3:w3.frozen? ⟨rb,1,none⟩=false:=by rw[← hw3];exact(Zkt _ _ _ _).trans rz
  have k0:w3.cell? ⟨e,0,none⟩=some (.int .i64 o.cl):=hN3.2 0 (by omega);have k1:w3.cell? ⟨e,1,none⟩=some (.int .i64 o.op):=hN3.2 1 (by omega);have k2:w3.cell? ⟨e,2,none⟩=some (.int .i64 o.ttl):=hN3.2 2 (by omega);have k3:w3.cell? ⟨e,3,none⟩=some o.nv:=hN3.2 3 (by omega);have k22:w3.cell? ⟨e,22,none⟩=some (.int .i64 o.res.tick):=hN3.2 22 (by omega);have kr:w3.rangeAt e 15 (Bp o.res):=by have:=hN3.resR;rwa [Zl0]at this
  have hel:e<w3.heap.size:=hN3.1;have hrl:rb<w3.heap.size:=Zll H2.o.lt hc3.size;have HC3:=Ya ((Hx2.o.chg (fun k=>k=m∨k=rb)).trans (hc3.mono fun k _ h=>.inr h));have HM3:=Ya hmod3;have hnm:=H2.o.nm;have hnb:=H2.o.nb;have hml:=hmod3.map.lt;have hem:e≠m:=by have:=He.o;have:=Hml.o;omega
  refine Zlb (S:=fun w'=>w'.cell? ⟨rb,0,none⟩=some (.pointer (some ⟨b,0,none⟩))∧w'.cell? ⟨e,0,none⟩=some (.int .i64 o.cl)∧w'.cell? ⟨e,1,none⟩=some (.int .i64 o.op)∧w'.cell? ⟨e,2,none⟩=some (.int .i64 o.ttl)∧w'.cell? ⟨e,3,none⟩=some o.nv∧w'.cell? ⟨e,22,none⟩=some (.int .i64 o.res.tick)∧w'.rangeAt e 15 (Bp o.res)) (by kernel_rfl) ⟨g0,k0,k1,k2,k3,k22,kr⟩ (fun hHeld=>?_);refine Xy [0,1,2,3,4,5,6,7,8,9,10,11,12,13,14,16] 3 (by rfl) (by kernel_rfl) (by kernel_rfl) (fun _ _ d _ _ h=>by cases d<;>exact h) (by assumption) ?_;simp only[Z1,Z2,Z3,Zw,Zx];repeat(refine Xw (v:=?_) (by kernel_rfl) ?_ ?_;rotate_left;(focus((intro w hSw;(try dsimp only at hSw);go_simp);(first|done|(with_reducible rfl))));(try simp only[Act.put]);(try simp only[Zv]))
  refine Xv ?_;refine Zke (i := 17) (oi := { dst := some 43, op := Op.load 53 (Operand.tmp 42), type := 53, pos := "history.go:92", after := #[{ on := 16, ground := Ground.data }], guard := none }) (v := Wu o.res) rfl (by kernel_rfl) (by kernel_rfl) (by kernel_rfl) (fun _ _ _ h => h) ?hy17 (by assumption) ?_;case hy17=>exact Zz8 (x:=Operand.tmp 42) rfl rfl e 15 (by simp [Act.eval];done) o.res fun w h=>h.2.2.2.2.2.2
  (try simp only[Act.put]);(try simp only[Zv])
  refine Zli (rs:=[15]) (by kernel_rfl) (by simp) ?_;refine Yt (o:=_) rfl (fun K hK=>?_) Ys;go_simp;refine(Znw b m cl cp o.cl o.op o.ttl o.res.tick l o.nv o.ns _ (HM3.o.ext (Yn w3).drew) hl hks (S:=S) (Rd.drew Hn3.o) hm).mono ?_;rintro x w4 ⟨rfl,hmod4,hc4⟩;replace hc4:Chg (· = m) w3 w4:=((Yn w3).drew.chg (· = m)).trans hc4;have j0:=(hc4.cell (p:=⟨rb,0,none⟩) hrl hnm).trans g0;have j1:=(hc4.cell (p:=⟨rb,1,none⟩) hrl hnm).trans g1;have jz:=(hc4.frozen (p:=⟨rb,1,none⟩) hrl hnm).trans hz3;replace k0:=(hc4.cell (p:=⟨e,0,none⟩) hel hem).trans k0;replace k1:=(hc4.cell (p:=⟨e,1,none⟩) hel hem).trans k1;replace k2:=(hc4.cell (p:=⟨e,2,none⟩) hel hem).trans k2;replace k3:=(hc4.cell (p:=⟨e,3,none⟩) hel hem).trans k3;replace k22:=(hc4.cell (p:=⟨e,22,none⟩) hel hem).trans k22;replace kr:w4.rangeAt e 15 (Bp o.res):=fun j v hv=>(hc4.cell (p:=⟨e,15+j,none⟩) hel hem).trans (kr j v hv)
  have HR4:=Ya (show Nv w4 rb b m cl cp (doL cl cp l o.cl o.op o.ttl o.res.tick o.ns) o.res.tick from⟨j0,j1,Zll hrl hc4.size,hnb,hnm,jz,hmod4⟩);have HC4:=Ya (HC3.o.trans (hc4.mono fun k _ h=>.inl h));obtain⟨R,hR⟩:=gnX (doR cl cp l o.cl o.op o.ttl o.res.tick o.ns);have HRe:=Ya hR;rw[hR];clear hR hc4 hmod4 g0 g1 hz3 HM3 HC3 hN3 hmod3;(try go_wp2_with fail);refine hK.out _ _ ?_ (fun hHeld=>?_);(focus((try dsimp only);(first|done|go_keep)));clear hK K;try simp only[Act.put,Zv,Zu,Zt]
  refine Zke (i := 18) (oi := { dst := some 44, op := Op.binOp BinOp.neq 53 (Operand.tmp 41) (Operand.tmp 43) 53, type := 4, pos := "history.go:92", after := #[{ on := 15, ground := Ground.data }, { on := 17, ground := Ground.data }], guard := none }) (v := .bool (!Jd R o.res)) rfl (by kernel_rfl) (by kernel_rfl) (by kernel_rfl) (fun _ _ _ h => h) ?hy18 (by assumption) ?_;case hy18=>exact Zz7 (x:=Operand.tmp 41) (y:=Operand.tmp 43) rfl rfl (by simp [Act.eval];done) (by simp [Act.eval];done)
  (try simp only[Act.put]);(try simp only[Zv])
  refine Zl6 (by kernel_rfl) ?_ _;clear hHeld k0 k1 k2 k3 k22 kr j0 j1 jz;cases hq:Jd R o.res with
  | true =>
   go_wp2_with fail;go_ret;unfold Gt;rw[HP.o,HRe.o,hq];exact⟨rfl,HR4.o,HC4.o⟩
  | false =>
   go_wp2_with fail;go_ret;unfold Gt;rw[HP.o,HRe.o,hq];exact⟨rfl,HR4.o,HC4.o⟩
 have hbq:(o.bad.e !=0)=true:=by simp[hb]
 have hr:=HN2.o.resR;have hbd:=HN2.o.badR;rw[hbq];cases hq:Jd o.res o.bad with
 | true =>
  have HP:=Ya (show Kx cl cp l tick o=(0,l,tick) by unfold Kx;rw[Zlg hb,Zlg hq]);go_wp2_with (first|(refine Wc hr rfl ?_)|(refine Wc hbd rfl ?_)|(refine Q9 rfl rfl ?_;rw[hq]));go_ret;unfold Gt;rw[HP.o];exact⟨rfl,H2.o,Hx2.o.chg _⟩
 | false =>
  have HP:=Ya (show Kx cl cp l tick o=(26,l,tick) by unfold Kx;rw[Zlg hb,Zlk (by rw[hq];simp)]);go_wp2_with (first|(refine Wc hr rfl ?_)|(refine Wc hbd rfl ?_)|(refine Q9 rfl rfl ?_;rw[hq]));go_ret;unfold Gt;rw[HP.o];exact⟨rfl,H2.o,Hx2.o.chg _⟩
end
theorem Iz(cl cp:Int)(hc:V5 cl cp=0)(w:World):Calls Tryz.prog 63 #[.agg #[.int .i64 cl,.int .i64 cp]] w fun e w' =>
 ∃ rb b m,e=.returned (.pointer (some ⟨rb,0,none⟩))∧Nv w' rb b m cl cp [] 0∧w.heap.size≤rb∧w.heap.size≤m∧Ext w w':=by
 have x0:Ext w (w.alloc (.cells #[.int .i64 cl,.int .i64 cp] 37)):=(Yn w).alloc _;have X0:=Ya x0;clear x0;go_enter Tryz.func63,Tryz.ntmps63;go_wp2_with fail;refine(Fp cl cp _).mono ?_;rintro x w1 (⟨h0,_⟩ | ⟨_,b,m,rfl,hmod,hb,hm,hx1⟩)
 ·omega
 have hs:=X0.o.size;have hbl:=hmod.lt;have hml:=hmod.map.lt;have HM:=Ya hmod;have HX:=Ya (X0.o.trans hx1);have Hb:=Ya hb;have Hm:=Ya hm;clear hmod hx1 hb hm;go_wp2_with fail;go_ret;refine⟨w1.heap.size,b,m,rfl,⟨by go_simp,by go_simp,by simp,by omega,by omega,by go_simp,HM.o.ext ((Yn _).alloc _)⟩,HX.o.size,Zlh hs Hm.o,HX.o.alloc _⟩
abbrev RSt:=List Kp×Int×Bool
def Kj(st:RSt)(o:Opn):Int:=if st.2.2=true∧o.bad.e=0 then o.res.tick else st.2.1
def Qm(st:RSt)(o:Opn):Bool:=if st.2.2=true∧o.bad.e=0 then false else st.2.2
def Qv(cl cp:Int)(st:RSt)(o:Opn):Int×RSt:=((Kx cl cp st.1 (Kj st o) o).1,(Kx cl cp st.1 (Kj st o) o).2.1,(Kx cl cp st.1 (Kj st o) o).2.2,Qm st o)
def Ii(cl cp:Int)(os:List Opn):List Nat→RSt→Option (Nat×Int)
 | [],_=>none
 | i::r,st=>match os[i]? with
  | some o=>if(Qv cl cp st o).1≠0 then some (i,(Qv cl cp st o).1)else Ii cl cp os r (Qv cl cp st o).2
  | none=>none
def stO(cl cp:Int)(os:List Opn)(l:List Nat)(st:RSt):RSt:=l.foldl (fun st i=>match os[i]? with|some o=>(Qv cl cp st o).2|none=>st) st
theorem Rs{cl cp:Int}{os:List Opn}{l:List Nat}{st:RSt}{k i:Nat}{o:Opn}(hi:l[k]?=some i)(ho:os[i]?=some o):stO cl cp os (l.take (k+1)) st=(Qv cl cp (stO cl cp os (l.take k) st) o).2:=by
 unfold stO;rw[Za,hi,Zit,Zji];simp[ho]
theorem Mr{cl cp:Int}{os:List Opn}:∀ {l:List Nat} {st:RSt} {k:Nat},(∀ j,j<k→∀ i o,l[j]?=some i→os[i]?=some o→(Qv cl cp (stO cl cp os (l.take j) st) o).1=0)→(∀ i∈l,∃ o,os[i]?=some o)→Ii cl cp os l st=Ii cl cp os (l.drop k) (stO cl cp os (l.take k) st)
 | l,st,0,_,_=>by simp[stO]
 | [],st,k+1,_,_=>by simp[stO]
 | i::r,st,k+1,h,hm=>by
  obtain⟨o,ho⟩:=hm i (Zj0 ..);have h0:=h 0 (by omega) i o rfl ho;simp only[Z7,stO,List.foldl_nil]at h0;rw[Ii,ho];simp only[h0,ne_eq,not_true_eq_false,Zh0,Z4];have e:stO cl cp os ((i::r).take (k+1)) st=stO cl cp os (r.take k) (Qv cl cp st o).2:=by simp[stO,ho]
  rw[e];refine Mr (l:=r) (st:=(Qv cl cp st o).2) (k:=k) (fun j hj i' o' h1 h2=>?_) fun x hx=>hm x (Zj7 _ hx)
  have:=h (j+1) (by omega) i' o' (by simpa using h1) h2
  rwa [show stO cl cp os ((i::r).take (j+1)) st=stO cl cp os (r.take j) (Qv cl cp st o).2 by simp[stO,ho]]at this
theorem Rv{cl cp:Int}{os:List Opn}{l:List Nat}{st:RSt}{k i:Nat}{o:Opn}(h:∀ j,j<k→∀ i o,l[j]?=some i→os[i]?=some o→(Qv cl cp (stO cl cp os (l.take j) st) o).1=0)(hm:∀ i∈l,∃ o,os[i]?=some o)(hi:l[k]?=some i)(ho:os[i]?=some o)(he:(Qv cl cp (stO cl cp os (l.take k) st) o).1≠0) :
 Ii cl cp os l st=some (i,(Qv cl cp (stO cl cp os (l.take k) st) o).1):=by
 rw[Mr h hm];have:l.drop k=i::l.drop (k+1):=Gr hi;rw[this,Ii,ho];simp only[Zlg he]
theorem Rw{cl cp:Int}{os:List Opn}{l:List Nat}{st:RSt}(h:∀ j,j<l.length→∀ i o,l[j]?=some i→os[i]?=some o→(Qv cl cp (stO cl cp os (l.take j) st) o).1=0)(hm:∀ i∈l,∃ o,os[i]?=some o):Ii cl cp os l st=none:=by
 rw[Mr h hm,List.drop_length];rfl
theorem Zuu{cl cap client op ttl now:Int}{l:List Kp}{ns:List Nm}:(doL cl cap l client op ttl now ns).length≤l.length+16:=by
 unfold doL;split
 ·rename_i h;have hp:Nj cl client op ttl now ns:=Zjg h.1;have hlen:(Vq l ns).length≤16:=by rw[Iq];exact hp.l1
  rw[Zy3];have:=Zy5 l (J4 op client (now+ttl) (Vq l ns));have e1:(J4 op client (now+ttl) (Vq l ns)).length=(Vq l ns).length:=by simp[J4]
  omega
 omega
theorem Zq4{cl cp:Int}{l:List Kp}{t:Int}{o:Opn}:(Kx cl cp l t o).2.1.length≤l.length+16:=by
 unfold Kx;split
 ·simp
 split
 ·simp
 exact Zuu
theorem Rr{cl cp:Int}{st:RSt}{o:Opn}:(Qv cl cp st o).2.1.length≤st.1.length+16:=Zq4
theorem Gb{ops:Array Oper}{rest:List Oper}{dst:Option Nat}{x:Operand}{t:TypeId}{pos:String}{af:Array Edge}{gd:Option (Nat×Bool)}{a:Act}{w:World}{Q:Exit→Act→World→Prop}{b p:Nat}{o:Opn}(h:K5 w b p o)
 (hw:Region.wanted {dst:=dst,op:=.load 55 x,type:=t,pos:=pos,after:=af,guard:=gd} (yielded ops a.tmps)=true) (hx:a.eval x=.pointer (some ⟨b,p,none⟩)) (hK:wpList Tryz.prog ops Q rest (a.put dst (opV o)) w) :
 wpList Tryz.prog ops Q ({dst:=dst,op:=.load 55 x,type:=t,pos:=pos,after:=af,guard:=gd}::rest) a w:=by
 have hu:=It;rw[Zl9]at hu;obtain⟨d,hu,hd⟩:=hu;show if _ then _ else _
 rw[Zlg hw];exact .inl (Zhd _ x rfl b p hx (opC o) d h.range hu hd (by rw[Ky];rfl) hK)
theorem Vh.get{w:World}{S:Nat→Prop}{v:Value}{l:List Nat}(h:Vh w S v l){j i:Nat}(hj:l[j]?=some i) :
 ∃ g p c,v=.slice (some ⟨g,p,none⟩) l.length c∧l.length≤c∧c≤maxLen∧S g∧g<w.heap.size∧w.cell? ⟨g,p+j,none⟩=some (.int .i64 (i:Int)):=by
 obtain⟨g,p,c,hv,h1,h2,h3,h4,hc⟩:=h.at_ (Zr.1 hj).1;exact⟨g,p,c,hv,h1,h2,h3,h4,hc j _ (by rw[Zn,hj];rfl)⟩
theorem Vh.shape{w:World}{S:Nat→Prop}{v:Value}{l:List Nat}(h:Vh w S v l):∃ A c,v=.slice A l.length c:=by
 obtain⟨_,A,c,hv,_⟩:=h;exact⟨A,c,hv⟩
def Rf(os:List Opn):Prop:=∀ o∈os,∀ n∈o.ns,n.k.size≤maxLen
structure Zlu(w:World)(rb b m:Nat)(cl cp:Int)(os:List Opn)(ord:List Nat)(k:Nat)(st:RSt)(wr:World):Prop where
 rep:Nv wr rb b m cl cp st.1 st.2.1
 is:st=stO cl cp os (ord.take k) ([],0,true)
 few:st.1.length≤16*k
 oks:∀ j,j<k→∀ i o,ord[j]?=some i→os[i]?=some o→(Qv cl cp (stO cl cp os (ord.take j) ([],0,true)) o).1=0
 ext:Ext w wr
 lo:w.heap.size≤rb∧w.heap.size≤m
theorem Sg{S T:Nat→Prop}(sb:Nat)(cl cp:Int)(vo vl:Value)(os:List Opn)(ord:List Nat)(w:World)(hc:V5 cl cp=0)(c0:w.cell? ⟨sb,0,none⟩=some (.int .i64 cl))(c1:w.cell? ⟨sb,1,none⟩=some (.int .i64 cp))(c2:w.cell? ⟨sb,2,none⟩=some vo)(c6:w.cell? ⟨sb,6,none⟩=some vl)
 (ho:Vk w S vo os) (hk:Rf os) (hl:Vh w T vl ord) (hlen:ord.length≤6000) (hm:∀ i∈ord,∃ o,os[i]?=some o) :
 Calls Tryz.prog 96 #[.pointer (some ⟨sb,0,none⟩)] w fun e w'=>e=.returned (.bool (Ii cl cp os ord ([],0,true)).isNone)∧Ext w w':=by
 obtain⟨A,C,rfl⟩:=ho.shape;obtain⟨A2,C2,rfl⟩:=hl.shape;have hsb:=lt_of_cell c0;obtain⟨n,hnn⟩:=gnX (os.length);obtain⟨q,hqq⟩:=gnX (ord.length);have Hnn:=Ya hnn;have Hqq:=Ya hqq;have Ho:=Ya (ho.mono (T:=fun k=>k<w.heap.size) fun k _ hk=>hk);have Hl:=Ya hl;have Hk:=Ya hk;have Hm:=Ya hm;rw[hnn]at c2;rw[hqq]at c6 hlen;have C2w:=Ya c2;have C6w:=Ya c6;clear hnn hqq ho hl hk hm;go_enter Tryz.func96,Tryz.ntmps96;go_wp2_with fail;refine(Iz cl cp hc _).mono ?_;rintro x w1 ⟨rb,b,m,rfl,hrep,hlo1,hlo2,hx1⟩;replace c2:=(hx1.cell (p:=⟨sb,2,none⟩) hsb).trans c2;replace c6:=(hx1.cell (p:=⟨sb,6,none⟩) hsb).trans c6;have hsb1:=Zll hsb hx1.size;have hI:Zlu w rb b m cl cp os ord 0 ([],0,true) w1:=⟨hrep,rfl,by simp,fun j hj=>by omega,hx1,hlo1,hlo2⟩;have HI:=Ya hI;clear hrep hlo1 hlo2 hx1 hI c0 c1;go_wp2_with fail;go_loopw [4,18] (fun f o wr=>∃ (k:Nat) (st:RSt),k≤q∧o=.int .i64 (k:Int)∧f=.bool st.2.2∧Zlu w rb b m cl cp os ord k st wr) (fun _ o _=>q-(intOf o).toNat);case atStart=>exact⟨0,_,by omega,rfl,rfl,HI.o⟩
 obtain⟨k,st,hkq,rfl,rfl,hI⟩:=hrel;have HI2:=Ya hI;clear hI HI;by_cases hkl:k<q
 ·have hd:decide ((k:Int)<(q:Int))=true:=by simp;omega
  obtain⟨i,hi⟩:=geX (l:=ord) (i:=k) (by rw[Hqq.o];exact hkl);obtain⟨o,hoi⟩:=Hm.o i (Zy hi);have xw:=HI2.o.ext;obtain⟨g2,p2,c2',hv2,l1,l2,_,hg2,hcell⟩:=(show Vh wr T _ ord from Rd.ext Hl.o xw).get hi;obtain⟨g,p,c,hv,hc1,hc2,hgS,hA,hN⟩:=(Ho.o.ext xw).get hoi;simp only[Yg]at hv hv2;obtain⟨rfl,_,rfl⟩:=hv;obtain⟨rfl,_,rfl⟩:=hv2;have e2:=(xw.cell (p:=⟨sb,2,none⟩) hsb).trans C2w.o;have ha1:c2=c2:=rfl;rw[Hnn.o]at hc1;rw[Hqq.o]at l1;have hin:i<n:=by rw[← Hnn.o];exact(Zr.1 hoi).1
  have q1:(0:Int)≤(i:Int):=by omega
  have q2:(i:Int)<(n:Int):=by omega
  have hC:C≤9223372036854775807:=by unfold maxLen at hc2;omega
  have hC2:C2≤9223372036854775807:=by unfold maxLen at l2;omega
  have hnsh:=hN.shape;obtain⟨nA,nC,hnv⟩:=hnsh;have hone:o.nv.oneCell'=true:=by rw[hnv];rfl
  have Hi:=Ya hi;have Hoi:=Ya hoi;have HA:=Ya hA;have HN:=Ya hN;clear hi hoi hA hN hnv ha1;go_upto_region 7 with(first|(refine Xl HA.o rfl ?_)|(refine Wo rfl rfl rfl hone ?_));have hN1:=K9 wr o;have xA:Ext wr (wr.alloc (opO o)):=(Yn wr).alloc _;obtain⟨e,he⟩:=gnX (wr.heap.size);obtain⟨W1,hW1⟩:=gnX (wr.alloc (opO o));rw[hW1]at hN1 xA⊢;rw[he]at hN1;simp only[he];have hml:=HI2.o.rep.mod.map.lt;have hrl:=HI2.o.rep.lt;have hem:e≠m∧e≠rb:=by omega
  have HN1:=Ya hN1;have XA:=Ya xA;have Hem:=Ya hem;clear hN1 xA hW1 he hem e2 hcell;try go_frame
  go_cut [4,29,30,34] (fun f f1 f2 v wx=>f=.bool st.2.2∧f1=.bool st.2.2∧f2=.bool st.2.2∧v=.bool (st.2.2&&(o.bad.e==0))∧Ext W1 wx);case first =>
   cases hf:st.2.2 with
   | false =>
    go_wp2_with fail;go_meet;exact⟨by rw[hf],by rw[hf],by rw[hf],by rw[hf];rfl,Yn _⟩
   | true =>
    go_wp2_with (first|(refine Gb HN1.o rfl rfl ?_)|(go_at_call 64;refine(Dg o _).mono ?_;rintro x w3 ⟨rfl,hx3⟩));go_meet;exact⟨by rw[hf],by rw[hf],by rw[hf],by rw[hf];simp[bne],hx3⟩
  obtain⟨rfl,rfl,rfl,rfl,hx3⟩:=hcut;have hI3:=HI2.o.rep.ext (XA.o.trans hx3);have hN3:=HN1.o.ext hx3;have HN3:=Ya hN3;have HX3:=Ya ((HI2.o.ext.trans XA.o).trans hx3);have HNm:=Ya (Rd.ext HN.o (XA.o.trans hx3));have HR3:=Ya hI3;have z22:wc.cell? ⟨e,22,none⟩=some (.int .i64 o.res.tick):=hN3.2 22 (by omega);have r1:=hI3.c1;have rz:=hI3.z1;clear hx3 hN3 hI3;go_upto_if 34 with fail;go_cut [4] (fun v wx=>v=.bool (Qm st o)∧Nv wx rb b m cl cp st.1 (Kj st o)∧K5 wx e 0 o∧Ext w wx∧Wb wx (fun k=>k<w.heap.size) o.nv o.ns);case first =>
   cases hq:(st.2.2&&(o.bad.e==0))with
   | false =>
    have h1:¬ (st.2.2=true∧o.bad.e=0):=by simpa using hq
    have H1:=Ya (show Kj st o=st.2.1 by unfold Kj;rw[Zlk h1]);have H2:=Ya (show Qm st o=st.2.2 by unfold Qm;rw[Zlk h1]);clear h1;go_wp2_with fail;go_meet;exact⟨by rw[H2.o],by rw[H1.o];exact HR3.o,HN3.o,HX3.o,HNm.o⟩
   | true =>
    have h1:st.2.2=true∧o.bad.e=0:=by simpa using hq
    have H1:=Ya (show Kj st o=o.res.tick by unfold Kj;rw[Zlg h1]);have H2:=Ya (show Qm st o=false by unfold Qm;rw[Zlg h1]);clear h1 hq;go_wp2_with fail;go_meet;have hc:Chg (· = rb) wc (wc.setCell ⟨rb,1,none⟩ (.int .i64 o.res.tick)):=(Chg.refl (· = rb) wc).setCell (.inl rfl) _;refine⟨by rw[H2.o],?_,HN3.o.chg hc Hem.o.2,HX3.o.chg_new hc (fun i hi=>by rw[hi];exact HI2.o.lo.1),Rd.chg HNm.o hc (fun i hi e=>by have:=HI2.o.lo.1;omega)⟩;rw[H1.o];exact⟨(Zkz _ _ _ _ (by simp)).trans HR3.o.c0,Zkj _ _ _ r1,Zll HR3.o.lt hc.size,HR3.o.nb,HR3.o.nm,(Zkt _ _ _ _).trans rz,HR3.o.mod.chg hc (fun h=>HR3.o.nb h.symm) (fun h=>HR3.o.nm h.symm)⟩
  obtain⟨rfl,hR4,hN4,hx4,hn4⟩:=hcut;have HN4:=Ya hN4;have hks:=Hk.o o (Zy Hoi.o);have hfew:=HI2.o.few;have HP:=Ya (Mz (S:=fun k=>k<w.heap.size) rb b m cl cp st.1 (Kj st o) o wc hR4 (by omega) hn4 hks (by have:=HI2.o.lo.2;omega) (by have:=HI2.o.lo.1;omega));have HX4:=Ya hx4;clear hR4 hN4 hx4 hn4 hks z22 r1 rz HR3 HN3;go_wp2_with (refine Xl HN4.o rfl ?_);refine Zjy HP.o ?_;rintro x w5 ⟨rfl,hR5,hc5⟩;have hx5:=HX4.o.chg_new hc5 (fun i hi=>by rcases hi with rfl|rfl;exact HI2.o.lo.2;exact HI2.o.lo.1);obtain⟨code,hcode⟩:=gnX ((Kx cl cp st.1 (Kj st o) o).1);have Hcode:=Ya (show(Qv cl cp st o).1=code from hcode);have HR5:=Ya hR5;have HX5:=Ya hx5;rw[hcode];clear hcode hR5 hc5 hx5;by_cases h0:code=0
  ·have hz:(code !=0)=false:=by simp[h0]
   have H0:=Ya h0;clear h0;go_wp2_with fail;go_roundw;case rel =>
    refine⟨k+1,(Qv cl cp st o).2,by omega,by go_num,rfl,HR5.o,?_,?_,fun j hj i' o' h1 h2=>?_,HX5.o,HI2.o.lo⟩
    ·rw[Rs Hi.o Hoi.o,← HI2.o.is]
    ·have:=Rr (cl:=cl) (cp:=cp) (st:=st) (o:=o);omega
    by_cases ej:j=k
    ·subst ej;have e1:i'=i:=by rw[Hi.o]at h1;exact(Zlc h1).symm
     subst e1;have e2:o'=o:=by rw[Hoi.o]at h2;exact(Zlc h2).symm
     subst e2;rw[← HI2.o.is,Hcode.o,H0.o]
    exact HI2.o.oks j (by omega) i' o' h1 h2
   simp[intOf];omega
  have hz:(code !=0)=true:=by simp[h0]
  have HE:=Ya (show(Ii cl cp os ord ([],0,true)).isNone=false by
   rw[Rv HI2.o.oks Hm.o Hi.o Hoi.o (by rw[← HI2.o.is,Hcode.o];exact h0)];rfl)
  clear h0;go_wp2_with fail;go_ret;rw[HE.o];exact⟨rfl,HX5.o⟩
 have hd:decide ((k:Int)<(q:Int))=false:=by simp;omega
 have HE:=Ya (show(Ii cl cp os ord ([],0,true)).isNone=true by
  rw[Rw (fun j hj=>HI2.o.oks j (by rw[Hqq.o]at hj;omega)) Hm.o];rfl)
 go_wp2_with fail;go_ret;rw[HE.o];exact⟨rfl,HI2.o.ext⟩
def K6(os:List Opn)(ord:List Nat)(i:Nat):Bool:=(List.range os.length).any fun j=>!(ord.contains j)&&j !=i&&(match os[j]?,os[i]? with|some a,some b=>Di a b|_,_=>false)
theorem Zx0{os:List Opn}{ord:List Nat}{i j:Nat}{a b:Opn}(ha:os[j]?=some a)(hb:os[i]?=some b)(hj:ord.contains j=false)(hne:j≠i)(hp:Di a b=true):K6 os ord i=true:=by
 unfold K6;rw[Zk7];refine⟨j,Zk9.2 (Zr.1 ha).1,?_⟩;rw[ha,hb];have h1:(j !=i)=true:=by simpa using hne
 simp only[hj,h1,hp,Bool.not_false,Bool.and_self]
theorem Cv{os:List Opn}{ord:List Nat}{i:Nat}(h:∀ j,j<os.length→¬ (ord.contains j=false∧j≠i∧∃ a b,os[j]?=some a∧os[i]?=some b∧Di a b=true)):K6 os ord i=false:=by
 cases he:K6 os ord i with
 | false=>rfl
 | true =>
  unfold K6 at he;rw[Zk7]at he;obtain⟨j,hj,hp⟩:=he;simp only[Zkw,Zkc,bne_iff_ne,ne_eq]at hp;cases ha:os[j]? with
  | none=>rw[ha]at hp;simp at hp
  | some a =>
   cases hb:os[i]? with
   | none=>rw[ha,hb]at hp;simp at hp
   | some b =>
    rw[ha,hb]at hp;exact absurd ⟨hp.1.1,hp.1.2,a,b,ha,hb,hp.2⟩ (h j (Zk9.1 hj))
theorem Io{ops:Array Oper}{S:World→Prop}{op:Oper}{a:Act}(hw:Region.wanted op (yielded ops a.tmps)=true){x:Operand}(ho:op.op=.load 55 x)(b p:Nat)(hx:a.eval x=.pointer (some ⟨b,p,none⟩))(o:Opn)(hS:∀ w,S w→w.rangeAt b p (opC o)):YieldsIf Tryz.prog ops S op (opV o) a:=by
 have hu:=It;rw[Zl9]at hu;obtain⟨d,hu,hd⟩:=hu;exact yieldsIf_load_mid hw _ x ho b p hx (opC o) d hS hu hd (by rw[Ky];rfl)
def Zmm(w:World)(ib n:Nat)(ord:List Nat):Prop:=ib<w.heap.size∧∀ j,j<n→w.cell? ⟨ib,j,none⟩=some (.bool (ord.contains j))
theorem Zmm.ext{w w':World}{ib n:Nat}{ord:List Nat}(h:Zmm w ib n ord)(x:Ext w w'):Zmm w' ib n ord:=⟨Zll h.1 x.size,fun j hj=>(x.cell (p:=⟨ib,j,none⟩) h.1).trans (h.2 j hj)⟩
theorem Zus{S:Nat→Prop}(sb ib:Nat)(vo:Value)(os:List Opn)(ord:List Nat)(i ic:Nat)(w:World)(c2:w.cell? ⟨sb,2,none⟩=some vo)(c5:w.cell? ⟨sb,5,none⟩=some (.slice (some ⟨ib,0,none⟩) os.length ic))
 (ho:Vk w S vo os) (hin:Zmm w ib os.length ord) (hi:i<os.length) (hlen:os.length≤4096) (_hic:os.length≤ic) (_hic2:ic≤maxLen) :
 Calls Tryz.prog 95 #[.pointer (some ⟨sb,0,none⟩),.int .i64 i] w fun e w'=>e=.returned (.bool (K6 os ord i))∧Ext w w':=by
 obtain⟨A,C,rfl⟩:=ho.shape;have hsb:=lt_of_cell c2;obtain⟨ob,hob⟩:∃ o,os[i]?=some o:=⟨os[i],Zz hi⟩;obtain⟨n,hnn⟩:=gnX (os.length);have Hnn:=Ya hnn;have Ho:=Ya ho;have Hin:=Ya hin;obtain⟨g,p,c,hv,hc1,hc2,_,_,_⟩:=ho.get hob;simp only[Yg]at hv;obtain⟨rfl,-,rfl⟩:=hv;have Hob:=Ya hob;rw[hnn]at c2 c5 hi hlen _hic hc1;clear hnn ho hin hob;go_enter Tryz.func95,Tryz.ntmps95;go_wp2_with fail;go_loopw [11] (fun o wr=>∃ j:Nat,j≤n∧o=.int .i64 (j:Int)∧Ext w wr∧∀ k,k<j→¬ (ord.contains k=false∧k≠i∧∃ a b,os[k]?=some a∧os[i]?=some b∧Di a b=true)) (fun o _=>n-(intOf o).toNat);case atStart=>exact⟨0,by omega,rfl,Yn _,fun k hk=>by omega⟩
 obtain⟨j,hj,rfl,hx,hno⟩:=hrel;have Hno:=Ya hno;have Hx:=Ya hx;clear hno hx;by_cases hjn:j<n
 ·have hd:decide ((j:Int)<(n:Int))=true:=by simp;omega
  obtain⟨oa,hoa⟩:=geX (l:=os) (i:=j) (by rw[Hnn.o];exact hjn);have k2:=(Hx.o.cell (p:=⟨sb,2,none⟩) hsb).trans c2;have k5:=(Hx.o.cell (p:=⟨sb,5,none⟩) hsb).trans c5;have hinw:=Hin.o.ext Hx.o;have kin:=hinw.2 j (by rw[Hnn.o];exact hjn);have q1:(0:Int)≤(j:Int):=by omega
  have q2:(j:Int)<(n:Int):=by omega
  have Hoa:=Ya hoa;clear hoa;cases hc:ord.contains j with
  | true =>
   rw[hc]at kin;go_wp2_with fail;go_region;go_wp2_with fail;go_roundw;case rel=>exact⟨j+1,by omega,by go_num,Hx.o.drew,fun k hk=>by
    by_cases e:k=j
    ·subst e;rw[hc];simp
    exact Hno.o k (by omega)⟩
   simp[intOf];omega
  | false =>
   rw[hc]at kin;by_cases hji:j=i
   ·have hne:((j:Int)!=(i:Int))=false:=by simp;omega
    have Hji:=Ya hji;clear hji;go_wp2_with fail;go_region;go_wp2_with fail;go_roundw;case rel=>exact⟨j+1,by omega,by go_num,Hx.o.drew,fun k hk=>by
     by_cases e:k=j
     ·subst e;exact fun h=>h.2.1 Hji.o
     exact Hno.o k (by omega)⟩
    simp[intOf];omega
   have hne:((j:Int)!=(i:Int))=true:=by simp;omega
   obtain⟨g',p',c',hv',_,_,_,hA,_⟩:=(Ho.o.ext Hx.o).get Hoa.o;obtain⟨g2,p2,c2',hv2,_,_,_,hB,_⟩:=(Ho.o.ext Hx.o).get Hob.o;simp only[Yg,Yf,Zld,Zks,Zl2]at hv' hv2;obtain⟨⟨rfl,rfl⟩,-⟩:=hv';obtain⟨⟨rfl,rfl⟩,-⟩:=hv2;have kA:=hA.range;have kB:=hB.range;have hgl:=hA.1;have hsl:=Zll hsb Hx.o.size;have hil:=hinw.1;have q3:(0:Int)≤(i:Int):=by omega
   have q4:(i:Int)<(n:Int):=by omega
   clear hA hB hinw;go_upto_region 4 with fail;refine Zlb (S:=fun w'=>w'.cell? ⟨sb,5,none⟩=some (.slice (some ⟨ib,0,none⟩) n ic)∧w'.cell? ⟨ib,j,none⟩=some (.bool false)∧w'.cell? ⟨sb,2,none⟩=some (.slice (some ⟨g,p,none⟩) n C)∧w'.rangeAt g (p+j*23) (opC oa)∧w'.rangeAt g (p+i*23) (opC ob)) (by kernel_rfl) ⟨k5,kin,k2,kA,kB⟩ (fun hHeld=>?_);refine Xy [0,1,2,3,4,5,6,7,8,9,10,11,12,13,14,15,16,17,18,19] 10 (by rfl) (by kernel_rfl) (by kernel_rfl) (fun _ _ d _ _ h=>by cases d<;>exact h) (by assumption) ?_;simp only[Z1,Z2,Z3,Zw,Zx];repeat(refine Xw (v:=?_) (by kernel_rfl) ?_ ?_;rotate_left;(focus((intro w hSw;(try dsimp only at hSw);go_simp);(first|done|(with_reducible rfl))));(try simp only[Act.put]);(try simp only[Zv]))
   refine Xv ?_;refine Zke (i := 20) (oi := { dst := some 34, op := Op.load 55 (Operand.tmp 33), type := 55, pos := "history.go:129", after := #[{ on := 19, ground := Ground.data }, { on := 13, ground := Ground.guard }], guard := some (13, true) }) (v := opV oa) rfl (by kernel_rfl) (by kernel_rfl) (by kernel_rfl) (fun _ _ _ h => h) ?hy20 (by assumption) ?_;case hy20=>exact Io (x:=Operand.tmp 33) (by kernel_rfl) rfl g (p+j * 23) (by simp [Act.eval];done) oa fun w h=>h.2.2.2.1
   (try simp only[Act.put]);(try simp only[Zv])
   refine Xy [21,22,23,24,25,26] 3 (by rfl) (by kernel_rfl) (by kernel_rfl) (fun _ _ d _ _ h=>by cases d<;>exact h) (by assumption) ?_;simp only[Z1,Z2,Z3,Zw,Zx];repeat(refine Xw (v:=?_) (by kernel_rfl) ?_ ?_;rotate_left;(focus((intro w hSw;(try dsimp only at hSw);go_simp);(first|done|(with_reducible rfl))));(try simp only[Act.put]);(try simp only[Zv]))
   refine Xv ?_;refine Zke (i := 27) (oi := { dst := some 41, op := Op.load 55 (Operand.tmp 40), type := 55, pos := "history.go:129", after := #[{ on := 26, ground := Ground.data }, { on := 13, ground := Ground.guard }], guard := some (13, true) }) (v := opV ob) rfl (by kernel_rfl) (by kernel_rfl) (by kernel_rfl) (fun _ _ _ h => h) ?hy27 (by assumption) ?_;case hy27=>exact Io (x:=Operand.tmp 40) (by kernel_rfl) rfl g (p+i * 23) (by simp [Act.eval];done) ob fun w h=>h.2.2.2.2
   (try simp only[Act.put]);(try simp only[Zv])
   refine Zli (rs:=[28]) (by kernel_rfl) (by simp) ?_;refine Yt (o:=_) rfl (fun K hK=>?_) Ys;go_simp;refine(Zy2 oa ob _).mono ?_;rintro x w4 ⟨rfl,hx4⟩;replace hx4:Ext wr w4:=(Yn wr).drew.trans hx4;replace k2:=(hx4.cell (p:=⟨sb,2,none⟩) hsl).trans k2;replace k5:=(hx4.cell (p:=⟨sb,5,none⟩) hsl).trans k5;replace kin:=(hx4.cell (p:=⟨ib,j,none⟩) hil).trans kin;replace kA:w4.rangeAt g (p+j*23) (opC oa):=fun q v hv=>(hx4.cell (p:=⟨g,p+j*23+q,none⟩) hgl).trans (kA q v hv)
   replace kB:w4.rangeAt g (p+i*23) (opC ob):=fun q v hv=>(hx4.cell (p:=⟨g,p+i*23+q,none⟩) hgl).trans (kB q v hv)
   have HX4:=Ya (Hx.o.trans hx4);clear hx4;(try go_wp2_with fail);refine hK.out _ _ ?_ (fun hHeld=>?_);(focus((try dsimp only);(first|done|go_keep)));clear hK K;try simp only[Act.put,Zv,Zu,Zt]
   refine Zke (i:=29) (oi:=_) (v:=?_) rfl (by kernel_rfl) (by kernel_rfl) (by kernel_rfl) (fun _ _ _ h=>h) (Or.inl ⟨by rfl,?_⟩) (by assumption) ?_;rotate_left;(focus((intro w hSw;(try dsimp only at hSw);go_simp);(first|done|(with_reducible rfl))));(try simp only[Act.put]);(try simp only[Zv]);refine Zl6 (by kernel_rfl) ?_ _;clear hHeld k2 k5 kin kA kB;have Hji:=Ya hji;clear hji;cases hp:Di oa ob with
   | true =>
    have HE:=Ya (Zx0 Hoa.o Hob.o hc Hji.o hp);go_wp2_with fail;go_ret;rw[HE.o];exact⟨rfl,HX4.o⟩
   | false =>
    go_wp2_with fail;go_roundw;case rel=>exact⟨j+1,by omega,by go_num,HX4.o,fun k hk=>by
     by_cases e:k=j
     ·subst e;rintro⟨_,_,a,b,ha,hb,hab⟩;rw[Hoa.o]at ha;rw[Hob.o]at hb;simp only[Yf]at ha hb;subst ha hb;rw[hp]at hab;simp at hab
     exact Hno.o k (by omega)⟩
    simp[intOf];omega
 have hd:decide ((j:Int)<(n:Int))=false:=by simp;omega
 have HE:=Ya (Cv (fun k hk=>Hno.o k (by rw[Hnn.o]at hk;omega)));go_wp2_with fail;go_ret;rw[HE.o];exact⟨rfl,Hx.o⟩
structure Sx where
 found:Bool
 broken:Bool
 left:Nat
 ord:List Nat
def Zuq(cl cp:Int)(os:List Opn)(ord:List Nat):Bool:=(Ii cl cp os ord ([],0,true)).isNone
def Gc(cl cp:Int)(os:List Opn)(rec:Nat→List Nat→Sx):List Nat→Nat→List Nat→Sx
 | [],left,ord=>⟨false,false,left,ord⟩
 | i::c,left,ord =>
  if ord.contains i then Gc cl cp os rec c left ord
  else if left=0 then⟨false,true,0,ord⟩
  else if K6 os ord i then Gc cl cp os rec c (left-1) ord
  else if Zuq cl cp os (ord++[i])then
   (if(rec (left-1) (ord++[i])).found||(rec (left-1) (ord++[i])).broken then rec (left-1) (ord++[i])else Gc cl cp os rec c (rec (left-1) (ord++[i])).left ord)
  else Gc cl cp os rec c (left-1) ord
def K7(cl cp:Int)(os:List Opn):Nat→Nat→List Nat→Sx
 | 0,left,ord=>⟨true,false,left,ord⟩
 | d+1,left,ord=>Gc cl cp os (K7 cl cp os d) (List.range os.length) left ord
def V1(cl cp:Int)(os:List Opn)(budget:Int):List Nat×Int×Int :=
 if(Vo cl cp os).2≠0 then([],0,(Vo cl cp os).2)
 else if(os.any fun o=>o.ans == -1)=true then([],0,26)
 else if budget<1∨1048576<budget then([],0,3)
 else if(K7 cl cp os os.length budget.toNat []).broken then([],0,28)
 else if(K7 cl cp os os.length budget.toNat []).found then((K7 cl cp os os.length budget.toNat []).ord,budget-(K7 cl cp os os.length budget.toNat []).left,0)
 else([],budget-(K7 cl cp os os.length budget.toNat []).left,23)
theorem Zn8{cl cp:Int}{os:List Opn}{rec:Nat→List Nat→Sx}{i:Nat}{c:List Nat}{left:Nat}{ord:List Nat}(h:ord.contains i=true):Gc cl cp os rec (i::c) left ord=Gc cl cp os rec c left ord:=by
 rw[Gc,Zlg h]
theorem Zvw{cl cp:Int}{os:List Opn}{rec:Nat→List Nat→Sx}{i:Nat}{c:List Nat}{ord:List Nat}(h:ord.contains i=false):Gc cl cp os rec (i::c) 0 ord=⟨false,true,0,ord⟩:=by
 rw[Gc,Zlk (by rw[h];simp),Zlg rfl]
theorem Zvv{cl cp:Int}{os:List Opn}{rec:Nat→List Nat→Sx}{i:Nat}{c:List Nat}{left:Nat}{ord:List Nat}(h:ord.contains i=false)(he:K6 os ord i=true):Gc cl cp os rec (i::c) (left+1) ord=Gc cl cp os rec c left ord:=by
 rw[Gc,Zlk (by rw[h];simp),Zlk (by omega),Zlg he,Zka]
theorem Zpr{cl cp:Int}{os:List Opn}{rec:Nat→List Nat→Sx}{i:Nat}{c:List Nat}{left:Nat}{ord:List Nat}(h:ord.contains i=false)(he:K6 os ord i=false)(hx:Zuq cl cp os (ord++[i])=false):Gc cl cp os rec (i::c) (left+1) ord=Gc cl cp os rec c left ord:=by
 rw[Gc,Zlk (by rw[h];simp),Zlk (by omega),Zlk (by rw[he];simp),Zlk (by rw[hx];simp),Zka]
theorem Zps{cl cp:Int}{os:List Opn}{rec:Nat→List Nat→Sx}{i:Nat}{c:List Nat}{left:Nat}{ord:List Nat}(h:ord.contains i=false)(he:K6 os ord i=false)(hx:Zuq cl cp os (ord++[i])=true)(hr:(rec left (ord++[i])).found=true∨(rec left (ord++[i])).broken=true) :
 Gc cl cp os rec (i::c) (left+1) ord=rec left (ord++[i]):=by
 rw[Gc,Zlk (by rw[h];simp),Zlk (by omega),Zlk (by rw[he];simp),Zlg hx,Zka,Zlg (by rcases hr with hr|hr<;>simp[hr])]
theorem Zsa{cl cp:Int}{os:List Opn}{rec:Nat→List Nat→Sx}{i:Nat}{c:List Nat}{left:Nat}{ord:List Nat}(h:ord.contains i=false)(he:K6 os ord i=false)(hx:Zuq cl cp os (ord++[i])=true)(h1:(rec left (ord++[i])).found=false)(h2:(rec left (ord++[i])).broken=false) :
 Gc cl cp os rec (i::c) (left+1) ord=Gc cl cp os rec c (rec left (ord++[i])).left ord:=by
 rw[Gc,Zlk (by rw[h];simp),Zlk (by omega),Zlk (by rw[he];simp),Zlg hx,Zka,Zlk (by simp[h1,h2])]
section
section
variable {P:Program} {md:Region.Mode} {ops:Array Oper} {Q:Exit→Act→World→Prop} {S:World→Prop}
def Ir(md:Region.Mode)(ops:Array Oper)(z j:Nat):Bool:=((ops[z]?).map fun o=>o.after.any fun e=>Region.binds md e&&e.on==j).getD false
def Zu2(md:Region.Mode)(ops:Array Oper)(z:Nat):Bool :=
 (List.range ops.size).all fun j=>(j==z||Ir md ops z j||(List.range ops.size).any fun k=>!(k==z)&&Ir md ops z k&&Ir md ops k j)&&((ops[j]?).map fun o=>o.after.all fun e=>!Region.binds md e||decide (e.on<j)).getD false
theorem Bm{z j:Nat}{oz:Oper}(h:Ir md ops z j=true)(hoz:ops[z]?=some oz):∃ e∈oz.after,Region.binds md e=true∧e.on=j:=by
 unfold Ir at h;rw[hoz]at h;simp only[Zjk,Zjc,Zi3]at h;obtain⟨e,he,h⟩:=h;simp only[Zkw,Zhj]at h;exact⟨e,he,h⟩
def Fi(md:Region.Mode)(ops:Array Oper)(listed:Array Bool):Prop:=∀ k,listed.getD k false=true→∀ o,ops[k]?=some o→∀ e∈o.after,Region.binds md e=true→listed.getD e.on false=true
theorem Fi.set{listed:Array Bool}{i:Nat}(h:Fi md ops listed)(hs:listed.size=ops.size)(hi:i∈Region.ready md ops listed):Fi md ops (listed.setIfInBounds i true):=by
 intro k hk o ho e he hb;obtain⟨h1,h2,o',h3,h4⟩:=mem_ready.1 hi;rw[Qc];split
 ·rfl
 rw[Qc]at hk;by_cases hki:i=k
 ·subst hki;rw[ho]at h3;cases h3
  exact h4 e he hb
 rw[Zlk (fun h=>hki h.1)]at hk;exact h k hk o ho e he hb
theorem Zz4{z:Nat}(hz:z<ops.size)(hB:Zu2 md ops z=true):∀ (fuel:Nat) (listed:Array Bool) (a:Act) (w:World),listed.size=ops.size→listed.getD z true=false→Fi md ops listed →
 wpAnyH P md ops (Sy P ops Q z) S fuel (listed.setIfInBounds z true) a w→wpAny P md ops Q (fuel+1) listed a w:=by
 have hB':=hB;simp only[Zu2,Zig,Zk9,Zkw,Zjj,Zhj,Zk7,Zkc]at hB';have hbef:∀ j,j<ops.size→∀ o,ops[j]?=some o→∀ e∈o.after,Region.binds md e=true→e.on<j:=fun j hj o ho e he hb=>by
  have h:=(hB' j hj).2;rw[ho]at h;simp only[Zjk,Zjc,Zk3,Zjj,Zkc,Zl5]at h;rcases h e he with h|h
  ·rw[hb]at h;simp at h
  exact h
 have F1:∀ listed:Array Bool,listed.size=ops.size→listed.getD z true=false→Region.ready md ops listed≠[]:=fun listed hs hzl h0=>by
  have hj:∀ j,j<ops.size→listed.getD j true=true:=fun j=>by
   induction j using Nat.strongRecOn with
   | _ j ih =>
    intro hj;cases hl:listed.getD j true with
    | true=>rfl
    | false =>
     exfalso;have:j∈Region.ready md ops listed:=mem_ready.2 ⟨hj,hl,ops[j],Zle hj,fun e he hb=>by
      have h1:=hbef j hj _ (Zle hj) e he hb;have h2:=ih e.on h1 (by omega);simp only[Zla]at h2⊢;rw[Zle (by omega)]at h2⊢;exact h2⟩
     rw[h0]at this;simp at this
  rw[hj z hz]at hzl;simp at hzl
 have F2:∀ (listed:Array Bool) i,listed.size=ops.size→i≠z→i∈Region.ready md ops listed→i∈Region.ready md ops (listed.setIfInBounds z true):=fun listed i hs hne hi=>by
  obtain⟨h1,h2,o,h3,h4⟩:=mem_ready.1 hi;refine mem_ready.2 ⟨h1,by rw[Qc,Zlk (fun h=>hne h.1.symm)];exact h2,o,h3,fun e he hb=>?_⟩;rw[Qc];split
  ·rfl
  exact h4 e he hb
 have F3:∀ listed:Array Bool,listed.size=ops.size→Fi md ops listed→z∈Region.ready md ops listed→Region.ready md ops (listed.setIfInBounds z true)=[]:=fun listed hs hcl hi=>by
  obtain⟨h1,h2,o,h3,h4⟩:=mem_ready.1 hi;rw[Zk6];intro j hj;obtain⟨j1,j2,_⟩:=mem_ready.1 hj;rw[Qc]at j2;by_cases hjz:z=j
  ·rw[Zlg ⟨hjz,by omega⟩]at j2;simp at j2
  rw[Zlk (fun h=>hjz h.1)]at j2;have h5:listed.getD j false=true:=by
   rcases(hB' j j1).1 with(h|h) | ⟨k,hk,⟨hkz,h⟩,h'⟩
   ·exact absurd h.symm hjz
   ·obtain⟨e,he,hb,hon⟩:=Bm h h3;rw[← hon];exact h4 e he hb
   obtain⟨e,he,hb,hon⟩:=Bm h h3;have h6:=h4 e he hb;rw[hon]at h6;obtain⟨e',he',hb',hon'⟩:=Bm h' (Zle hk);rw[← hon'];exact hcl k h6 _ (Zle hk) e' he' hb'
  simp only[Zla]at h5 j2;rw[Zle (by omega)]at h5 j2;simp at h5 j2;rw[h5]at j2;simp at j2
 intro fuel
 induction fuel with
 | zero =>
  rintro listed a w hs hzl hcl ⟨hr,hq⟩;refine⟨fun h=>absurd h (F1 listed hs hzl),fun i hi=>?_⟩;by_cases hiz:i=z
  ·subst hiz;exact Zhl (fun a' w' h=>⟨F3 listed hs hcl hi,h⟩) hq
  have:=F2 listed i hs hiz hi;rw[hr]at this;simp at this
 | succ fuel ih =>
  rintro listed a w hs hzl hcl ⟨hr,hq⟩;refine⟨fun h=>absurd h (F1 listed hs hzl),fun i hi=>?_⟩;by_cases hiz:i=z
  ·subst hiz;have h0:=F3 listed hs hcl hi;exact Zhl (fun a' w' h=>⟨fun _=>h,by rw[h0];simp⟩) (hr h0)
  have h1:=hq i (F2 listed i hs hiz hi);refine Zhl (fun a' w' h=>?_) (Zz5 h1);refine ih (listed.setIfInBounds i true) a' w' (by simp[hs]) (by rw[Qc,Zlk (fun h=>hiz h.1)];exact hzl) (hcl.set hs hi) ?_;rw[Array.setIfInBounds_comm true true hiz];exact h.2
theorem Gv{id:Nat}{a:Act}{w:World}(z n:Nat)(hn:ops.size=n+1)(hz:z<ops.size)(hB:Zu2 .any ops z=true)(hm:P.follows .mixedOrders=true)(hS:S w.drew)
 (h:S w.drew→wpAnyH P .any ops (Sy P ops Q z) S n ((Array.replicate ops.size false).setIfInBounds z true) a w.drew):(Code.region id ops true).wp P Q a w:=by
 refine wp_region_any hm ?_;rw[hn];have h2:=h hS;rw[hn]at h2;have hz':z<n+1:=hn▸hz;refine Zz4 hz hB n _ a _ (by simp[hn]) (by simp[Zla,hz']) (fun k hk=>?_) h2;simp only[Zla,Array.getElem?_replicate]at hk;by_cases hkn:k<n+1<;>simp[hkn]at hk
end
end
end Go.Proofs.YtnbclgbicnpmnaaGreat
