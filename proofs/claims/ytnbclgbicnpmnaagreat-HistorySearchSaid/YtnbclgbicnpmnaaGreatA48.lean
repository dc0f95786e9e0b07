/- Lemmas of this claim: DuP, OpW, Kh, Ran. Conditions: as named. -/
import Derived.Test.YtnbclgbicnpmnaaGreatA15
import Derived.Test.YtnbclgbicnpmnaaGreatA24
import Derived.Test.YtnbclgbicnpmnaaGreatA37
import Derived.Test.YtnbclgbicnpmnaaGreatA39
import Derived.Test.YtnbclgbicnpmnaaGreatA41
import Derived.Test.YtnbclgbicnpmnaaGreatA42
import Derived.Test.YtnbclgbicnpmnaaGreatA43
import Derived.Test.YtnbclgbicnpmnaaGreatA47
namespace Go.Proofs.YtnbclgbicnpmnaaGreat
open Go.RowKit Go.Sort
set_option maxHeartbeats 0
set_option maxRecDepth 100000
set_option linter.all false
theorem Rd.ne_blk{w:World}{S:Nat→Prop}{z n rb:Nat}{v:Value}{xs:List Value}(h:Rd w S z v n xs)(h00:xs=[]→n=0)(hne:∀ (o:Nat) u,xs[0]?=some u→w.cell? ⟨rb,o,none⟩≠some u):Rd w (fun k=>S k∧k≠rb) z v n xs:=by
 obtain⟨h1,A,c,hv,h2,h3,h4⟩:=h;refine⟨h1,A,c,hv,h2,h3,fun h0=>?_⟩;obtain⟨g,o,e,hS,hg,hc⟩:=h4 h0;refine⟨g,o,e,⟨hS,fun e2=>?_⟩,hg,hc⟩;subst e2;cases xs with
 | nil=>have:=h00 rfl;omega
 | cons u r=>exact absurd (hc 0 u rfl) (hne _ u rfl)
theorem Zml{w:World}{b:Nat}{cs:Array Value}{t:TypeId}(h:w.heap[b]?=some (.cells cs t)):Xr w b cs.toList :=
 ⟨(Zln.1 h).1,fun k=>by simp[World.frozen?,h],fun k hk=>by simp only[World.cell?,h];simp⟩
theorem Zty{ns:List Nm}{u:Value}(h:(Wq ns)[0]?=some u):∃ s,u=.string s:=by
 cases ns with
 | nil=>simp[Wq]at h
 | cons n r =>
  have h1:some (Value.string n.a)=some u:=h;exact⟨_,(Zlj h1).symm⟩
theorem Km.extE{w w':World}{a:Option Addr}{len:Nat}(h:Km w a len)(x:Ext w w'):Km w' a len:=by
 obtain⟨h1,h2⟩:=h;refine⟨h1,fun hl=>?_⟩;obtain⟨y,e,hy,hc⟩:=h2 hl;refine⟨y,e,Zlr hy x.size,fun j hj=>?_⟩;obtain⟨z,hz,hi⟩:=hc j hj;exact⟨z,(x.cell (by rw[add_block];exact hy)).trans hz,hi⟩
theorem Zv5(w:World)(b:Nat)(A:Option Addr)(n C:Nat)(c3:w.cell? ⟨b,3,none⟩=some (.slice A n C)):Calls Tryz.prog 34 #[.pointer (some ⟨b,0,none⟩)] w fun e w'=>e=.returned (.slice A n C)∧w=w':=by
 go_enter Tryz.func34,Tryz.ntmps34;go_wp2_with fail;go_ret;exact⟨rfl,rfl⟩
theorem Wv.opsFar{w w':World}{U:Nat→Prop}{T:Tbl}{b B rb:Nat}{d:Dk}{cs:Array Value}{t:TypeId}{fr:Nat×Nat}(D:Wv w U T b B d)(hrB:rb<B)(R:w.heap[rb]?=some (.cells cs t fr))(hcs:∀ u∈cs,∀ s,u≠.string s)(c:Chg (· = rb) w w'):Vy w' (fun _=>True) d.ov (d.ops.map Subtype.val):=by
 have h1:=Own.rd (E:=opE) D.own;refine⟨?_,fun o ho=>?_⟩
 ·rw[Zq];exact Rd.mono (Rd.chg h1 c (fun q hq e=>by have:B≤q:=hq;omega)) fun _ _ _=>trivial
 obtain⟨x,hx,rfl⟩:=Zld.1 ho;have hn:=D.nms x hx;exact Rd.mono (Rd.chg (Rd.ne_blk hn (fun e=>by cases hns:x.1.ns with|nil=>rfl|cons a r=>rw[hns]at e;simp[Wq,Dx]at e) (fun o u hu hc=>by
  obtain⟨s',hs'⟩:=Zty hu;simp only[World.cell?,R]at hc;exact hcs u (Array.mem_of_getElem? hc) s' hs')) c (fun q hq e=>hq.2 e)) fun _ _ _=>trivial
theorem Ri{α:Type}(E:Enc α)(l:List α){i:Nat}(hi:i≤l.length):E.cells (l.take i)=(E.cells l).take (i*E.z)∧E.cells (l.drop i)=(E.cells l).drop (i*E.z):=by
 have e:E.cells l=E.cells (l.take i)++E.cells (l.drop i):=by rw[← E.app,Zjc]
 have el:(E.cells (l.take i)).length=i*E.z:=by rw[E.len,Zp];congr 1;omega
 rw[e];exact⟨(Zjb el).symm,(List.drop_left' el).symm⟩
theorem Own.takeG{α:Type}{E:Enc α}{w:World}{B g n c:Nat}{l:List α}(h:Own E w B (.slice (some ⟨g,0,none⟩) n c) l){i:Nat}(hi:i≤l.length):Own E w B (.slice (some ⟨g,0,none⟩) i c) (l.take i):=by
 obtain⟨h1,h2⟩:=h;have hl:(l.take i).length=i:=by rw[Zp];omega
 refine⟨E.len _,?_⟩;rcases h2 with⟨h2,_⟩ | ⟨g',cap,cur,he,hb,hg,hn,hm,hs,ht⟩
 ·simp at h2
 simp only[Yg,Yf,Zlh,Zlc,Zky]at he;obtain⟨rfl,he2,rfl⟩:=he;refine .inr ⟨g,c,cur,by rw[hl],hb,hg,by rw[hl];omega,hm,hs,?_⟩;rw[(Ri E l hi).1,hl,← ht,List.take_take];congr 1;have:i*E.z≤l.length*E.z:=Zla _ hi;omega
theorem RdE.dropG{α:Type}{E:Enc α}{w:World}{S:Nat→Prop}{g o n c:Nat}{l:List α}(h:RdE E w S (.slice (some ⟨g,o,none⟩) n c) l){i m:Nat}(hi:i≤l.length)(hm:m=l.length-i){A2:Option Addr}{c2:Nat}(hA:0<m→A2=some ⟨g,o+i*E.z,none⟩)(hc1:m≤c2)(hc2:c2≤maxLen):RdE E w S (.slice A2 m c2) (l.drop i):=by
 have hl:(l.drop i).length=m:=by rw[Z8,hm]
 refine⟨E.len _,A2,c2,by rw[hl],by rw[hl];exact hc1,hc2,fun h0=>?_⟩;rw[hl]at h0;obtain rfl:=hA h0;obtain⟨h1,A',c',hv,h2,h3,h4⟩:=h;cases hv
 obtain⟨g',o',e,hS,hg,hc⟩:=h4 (by omega);cases e
 refine⟨g,o+i*E.z,rfl,hS,hg,fun j u hu=>?_⟩;rw[(Ri E l hi).2,Yz]at hu;have:=hc (i*E.z+j) u hu
 rwa [← Zki]at this
theorem Gu{ops:Array Oper}{C:World→Prop}{Q:Act→Prop}{rest:List Oper}{dst:Option Nat}{x:Operand}{t:TypeId}{pos:String}{af:Array Edge}{gd:Option (Nat×Bool)}{a:Act}{b p:Nat}{o:Opn}
 (hw:Region.wanted {dst:=dst,op:=.load 55 x,type:=t,pos:=pos,after:=af,guard:=gd} (yielded ops a.tmps)=true) (hx:a.eval x=.pointer (some ⟨b,p,none⟩)) (hC:∀ w',C w'→Kc w' b p o)
 (hK:wpQuiet Tryz.prog ops C Q rest (a.put dst (opV o))):wpQuiet Tryz.prog ops C Q ({dst:=dst,op:=.load 55 x,type:=t,pos:=pos,after:=af,guard:=gd}::rest) a:=by
 have hu:=Ol;rw[Zl0]at hu;obtain⟨d,hu,hd⟩:=hu;show if _ then _ else _
 rw[Zlm hw];refine⟨opV o,fun w' hc=>?_,hK⟩;unfold Oper.quietAt execOp;simp only[hx,Instr.loadAt,Instr.sureAddr,Zk1,Zk2,Zkw,run_loadVar_mid w' b p _ (opC o) d (hC w' hc).range hu hd (by rw[Jx];rfl)];exact⟨rfl,rfl⟩
theorem Ti{ops:Array Oper}{S:World→Prop}{Q:Act→Prop}{l:List Oper}{dst:Option Nat}{x:Operand}{t:TypeId}{pos:String}{af:Array Edge}{gd:Option (Nat×Bool)}{a:Act}{b p:Nat}{o:Opn}
 (hw:Region.wanted {dst:=dst,op:=.load 55 x,type:=t,pos:=pos,after:=af,guard:=gd} (yielded ops a.tmps)=true) (hx:a.eval x=.pointer (some ⟨b,p,none⟩)) (hS:∀ w',S w'→w'.rangeAt b p (opC o))
 (hK:Q9 Tryz.prog ops S Q l (a.put dst (opV o))):Q9 Tryz.prog ops S Q ({dst:=dst,op:=.load 55 x,type:=t,pos:=pos,after:=af,guard:=gd}::l) a:=by
 refine⟨opV o,.inl ⟨hw,fun w' hc=>?_⟩,hK⟩;have hu:=Ol;rw[Zl0]at hu;obtain⟨d,hu,hd⟩:=hu;have h1:(Instr.loadAt 55 (.pointer (some ⟨b,p,none⟩))).run Tryz.prog w'=.ok (opV o) w':=run_loadAt_mid w' b p _ (opC o) d (hS w' hc) hu hd (by rw[Jx];rfl);unfold execOp;simp only[hx,Zk1,h1,Zkw,Zk2]
theorem Kf{ops:Array Oper}{op:Oper}{a:Act}{w:World}{K:Act→World→Prop}{Q:Exit→Act→World→Prop}{F:Prop}{b p:Nat}{o:Opn}(hgd:op.guard=none)(x:Operand)(ho:op.op=.load 55 x)(hx:a.eval x=.pointer (some ⟨b,p,none⟩))(hr:w.rangeAt b p (opC o))
 (h:K (a.put op.dst (opV o)) w):if Region.wanted op (yielded ops a.tmps)=true then op.wp Tryz.prog a w K Q else F:=by
 rw[Zlm (by simp[Region.wanted,hgd])];have hu:=Ol;rw[Zl0]at hu;obtain⟨d,hu,hd⟩:=hu;exact Zhf _ x ho b p hx (opC o) d hr hu hd (by rw[Jx];rfl) h
structure Kb(w:World)(H:Nat)(v:Value)(os:List OpS):Prop where
 own:Own opE w H v os
 nms:∀ o∈os,Wf w (fun k=>k<H) o.1.nv o.1.ns
theorem Kb.ext{w w':World}{H:Nat}{v:Value}{os:List OpS}(h:Kb w H v os)(x:Ext w w'):Kb w' H v os:=⟨h.own.ext x,fun o ho=>Rd.ext (h.nms o ho) x⟩
theorem Kb.opsAt{w:World}{H:Nat}{v:Value}{os:List OpS}(h:Kb w H v os):Vy w (fun _=>True) v (os.map Subtype.val):=by
 refine⟨?_,fun o ho=>?_⟩
 ·have h1:=Own.rd (E:=opE) h.own;rw[Zq];exact Rd.mono h1 fun _ _ _=>trivial
 obtain⟨x,hx,rfl⟩:=Zld.1 ho;exact Rd.mono (h.nms x hx) fun _ _ _=>trivial
theorem Kb.set{w:World}{H g n c:Nat}{os:List OpS}(h:Kb w H (.slice (some ⟨g,0,none⟩) n c) os){z f:Nat}{o o':OpS}{vs:List Value}(hz:os[z]?=some o)(hf:f+vs.length≤23)(he:opC o'.1=(opC o.1).take f++(vs++(opC o.1).drop (f+vs.length)))
 (hn:Wf w (fun k=>k<H) o'.1.nv o'.1.ns):Kb (w.setCells g (z*23+f) vs) H (.slice (some ⟨g,0,none⟩) n c) (os.set z o'):=by
 have c:Chg (· = g) w (w.setCells g (z*23+f) vs):=Xp (S:=(· = g)) (.inl rfl) (Chg.refl _ _);have hb:=h.own.blk;have hS:∀ j,j<H→¬ j=g:=fun j hj e=>by omega
 refine⟨?_,fun q hq=>?_⟩
 ·have h0:=h.own;unfold Own at h0⊢;rw[Zf];have h1:=Lm (vs:=vs) (p:=z*23+f) h0;have e:Zye (opE.cells os) (z*23+f) vs=opE.cells (os.set z o'):=by
   show Zye (Um (os.map Subtype.val)) (z*23+f) vs=Um ((os.set z o').map Subtype.val);rw[Tv (o:=o.1) (o':=o'.1) (by rw[Zn,hz];rfl) hf he,Zhp]
  rw[e]at h1;exact h1
 rcases Zkq hq with h1|rfl
 ·exact Rd.chg (h.nms q h1) c hS
 exact Rd.chg hn c hS
theorem Kb.range{w:World}{H g n c:Nat}{os:List OpS}(h:Kb w H (.slice (some ⟨g,0,none⟩) n c) os){z:Nat}{o:OpS}(hz:os[z]?=some o):w.rangeAt g (z*23) (opC o.1):=fun f v hv=>by
 have h23:f<23:=by have:=(Zr.1 hv).1;rw[Qg]at this;exact this
 refine Own.at_ h.own ?_;show(Um (os.map Subtype.val))[z*23+f]?=_;rw[Lo (o:=o.1) (by rw[Zn,hz];rfl) f h23,hv]
theorem Kb.there{w:World}{H g n c:Nat}{os:List OpS}(h:Kb w H (.slice (some ⟨g,0,none⟩) n c) os){z f m:Nat}(hz:z<os.length)(hf:f+m≤23):w.there g (z*23+f) m:=by
 have hb:Xr w g (opE.cells os):=⟨h.own.blk.2,fun j=>Own.thaw h.own j,fun j hj=>by rw[Zz hj];exact Own.at_ h.own (Zz hj)⟩;refine hb.there ?_;rw[opE.len];have:(z+1)*23≤os.length*23:=Zla _ hz;show z*23+f+m≤os.length*23;omega
theorem Kb.put{w:World}{H g n c:Nat}{os:List OpS}(h:Kb w H (.slice (some ⟨g,0,none⟩) n c) os){z:Nat}{o o':OpS}(hz:os[z]?=some o)(hn:Wf w (fun k=>k<H) o'.1.nv o'.1.ns):Kb (w.setCells g (z*23) (opC o'.1)) H (.slice (some ⟨g,0,none⟩) n c) (os.set z o'):=by
 obtain⟨vs,hvs⟩:=gnX (opC o'.1);have hl:vs.length=23:=by rw[← hvs,Qg]
 have h1:(opC o.1).drop (0+vs.length)=[]:=List.drop_eq_nil_of_le (by rw[Qg];omega);have h2:=h.set (z:=z) (f:=0) (o:=o) (o':=o') (vs:=vs) hz (by omega) (by rw[h1,Z7,Zo,Ziw];exact hvs) hn;rw[Zkt]at h2;rw[hvs];exact h2
theorem Tx(o:OpS):(opC o.1).toArray.all (·.oneCell')=true:=by
 have h:=Zyo [o];have e:Zqk [o]=opC o.1:=by show opC o.1++[]=_;simp
 rw[e]at h;simpa using h
def Zly(o:Opn):Prop:=I64 o.cl∧I64 o.dec∧-9223372036854775808≤o.res.tick∧KS o.ns
def Mj(os:List OpS):Prop:=os.length≤4096∧∀ o∈os,Zly o.1
theorem Ip.fitO{o:Opn}(h:Ip o):Zly o:=by
 obtain⟨h1,h2,h3,h4,h5,h6⟩:=h;exact⟨by unfold I64;omega,by unfold I64;omega,by omega,h5⟩
theorem Mj.set{os:List OpS}(h:Mj os)(z:Nat){o:OpS}(ho:Zly o.1):Mj (os.set z o):=by
 refine⟨by rw[Zf];exact h.1,fun q hq=>?_⟩;rcases Zkq hq with h1|rfl
 ·exact h.2 q h1
 exact ho
theorem Mj.cut{os:List OpS}(h:Mj os)(k:Nat):Mj (os.take k++os.drop (k+1)):=by
 refine⟨by rw[Zs,Zp,Z8];have:=h.1;omega,fun q hq=>?_⟩;rcases Zj.1 hq with h1|h1
 ·exact h.2 q (Zjr h1)
 exact h.2 q (Zjq h1)
section
theorem Zti:∀ c∈J7,0≤c∧c≤1114111∧Iv c=false∧Zpi c=false∧c≠46∧Bu c=false∧¬ (65≤c∧c≤90)∧c≠114∧c≠111:=by decide
theorem Znl:J7.Pairwise (· < ·):=by decide
theorem Ztd{L:List Int}(h:L.Pairwise (· < ·)){i:Nat}{x y:Int}(hi:0<i)(hx:L[i]?=some x)(hy:L[i-1]?=some y):y<x:=by
 obtain⟨a1,rfl⟩:=Zr.1 hx;obtain⟨a2,rfl⟩:=Zr.1 hy;exact Zju.1 h (i-1) i a2 a1 (by omega)
theorem SpP.pw{l:List Sp}{M:Int}(h:SpP l 28 M):(l.map Sp.fr).Pairwise (· < ·):=Znl.sublist (h.sub.trans (Zit _ _))
theorem SpP.pool{l:List Sp}{M:Int}(h:SpP l 28 M){s:Sp}(hs:s∈l):s.fr∈J7:=((h.sub.trans (Zit _ _)).subset (Zld.2 ⟨s,hs,rfl⟩))
theorem SpP.ok{l:List Sp}{M:Int}(h:SpP l 28 M):Zlx l M :=
 ⟨by have:=h.len;omega,fun s hs=>by
   obtain⟨h1,h2,h3⟩:=h.one s hs;obtain⟨p1,p2,p3,_⟩:=Zti _ (h.pool hs);exact⟨p1,h1,p2,p3,h2,h3⟩,fun i x y hi hx hy=>Ztd h.pw hi (by rw[Zn,hx];rfl) (by rw[Zn,hy];rfl)⟩
theorem Zp4:∀ {l:List Sp},(l.map Sp.fr).Pairwise (· < ·)→(∀ s∈l,s.to_=s.fr)→∀ s∈l,Wp l s.fr=s.val
 | [],_,_,s,hs=>by simp at hs
 | a::r,hp,h1,s,hs=>by
  rw[Zl9,Zke]at hp;rw[Wp];rcases Zg.1 hs with rfl|hs
  ·rw[Zlm ⟨Zkc _,by rw[h1 s (by simp)];exact Zkc _⟩]
  have:=hp.1 s.fr (Zld.2 ⟨s,hs,rfl⟩);rw[Zlq (by rw[h1 a (by simp)];omega)];exact Zp4 hp.2 (fun x hx=>h1 x (by simp[hx])) s hs
theorem Zsc:∀ {l:List Sp} {c:Int},(∀ s∈l,s.to_=s.fr∧s.fr≠c)→Wp l c=0
 | [],_,_=>rfl
 | a::r,c,h=>by
  rw[Wp];obtain⟨h1,h2⟩:=h a (by simp);rw[Zlq (by omega)];exact Zsc fun s hs=>h s (by simp[hs])
theorem Pt:∀ {l:List Mp} {c:Int},(∀ m∈l,m.fr≠c)→Xg l c=[]
 | [],_,_=>rfl
 | a::r,c,h=>by
  rw[Xg,Zlq (h a (by simp))];exact Pt fun s hs=>h s (by simp[hs])
section
variable {d:List Mp} {exc:List Int}
theorem Eo.fr_in(h:Eo d exc 5){m:Mp}(hm:m∈d):7680≤m.fr∧m.fr≤7684:=by
 have:=h.sub.subset (Zld.2 ⟨m,hm,rfl⟩);have h2:∀ c∈Ib 5,(7680:Int)≤c∧c≤7684:=by decide
 exact h2 _ this
theorem Eo.pw(h:Eo d exc 5):(d.map Mp.fr).Pairwise (· < ·):=(show(Ib 5).Pairwise (· < ·) by decide).sublist h.sub
theorem Eo.o(h:Eo d exc 5){c:Int}(hc:c<7680∨7684<c):Xg d c=[]:=Pt fun m hm e=>by have:=h.fr_in hm;omega
theorem Eo.to_in(h:Eo d exc 5){m:Mp}(hm:m∈d){c:Int}(hc:c∈m.to_):c=97∨c=98∨(7680≤c∧c<m.fr)∨c=769∨c=776∨c=803∨c=837∨c=945:=by
 obtain⟨x,r,e,h1,h2⟩:=h.tos m hm;rw[e]at hc;rcases Zg.1 hc with rfl|hc
 ·omega
 rcases h2 with rfl | ⟨y,hy,rfl⟩
 ·simp at hc
 rw[Zi.1 hc];simp only[Zg,Zh,Zkl]at hy;omega
theorem Eo.to_len(h:Eo d exc 5){m:Mp}(hm:m∈d):1≤m.to_.length∧m.to_.length≤2:=by
 obtain⟨x,r,e,_,h2⟩:=h.tos m hm;rw[e];rcases h2 with rfl | ⟨y,hy,rfl⟩<;>simp
theorem Eo.full(h:Eo d exc 5)(hu:∀ m∈d,Xg d m.fr=m.to_):∀ (k f:Nat) (x:Int) (r:List Int),x<7680+(k:Int)→k≤5→k<f→(∀ y∈r,Xg d y=[])→r.length+k≤10→(Qh d f (x::r)).isSome
 | k,0,_,_,_,_,hf,_,_=>by omega
 | k,f+1,x,r,hx,hk,hf,hr,hl=>by
  unfold Qh;by_cases hfx:Xg d x=[]
  ·have hm:Av d (x::r)=false:=by
    simp only[Av,List.any_eq_false,Zg];rintro y (rfl|hy)
    ·simp[hfx]
    simp[hr y hy]
   rw[Zlm hm];rfl
  have hm:Av d (x::r)=true:=by
   simp only[Av,Zkr];exact⟨x,by simp,by simpa using hfx⟩
  rw[Zlq (by rw[hm];simp)];obtain⟨m,hmd,hmf⟩:=Zz8 hfx;have hto:Xg d x=m.to_:=by rw[← hmf];exact hu m hmd
  obtain⟨x',r',e,h1,h2⟩:=h.tos m hmd;have hfr:=h.fr_in hmd;have hnext:nextL d (x::r)=x'::(r'++r):=by
   have hrest:∀ l:List Int,(∀ y∈l,Xg d y=[])→nextL d l=l:=by
    intro l hl
    induction l with
    | nil=>rfl
    | cons a t ih =>
     have:=ih fun y hy=>hl y (by simp[hy])
     unfold nextL at this⊢;rw[Zj3,hl a (by simp),this];rfl
   have h3:=hrest r hr;unfold nextL at h3⊢;rw[Zj3,h3,hto,e];simp
  rw[hnext];have hr'l:r'.length≤1:=by rcases h2 with rfl | ⟨y,hy,rfl⟩<;>simp
  rw[Zlq (by simp;omega)];have hrn:∀ y∈r'++r,Xg d y=[]:=fun y hy=>by
   rcases Zj.1 hy with hy|hy
   ·refine h.o ?_;rcases h2 with rfl | ⟨z,hz,rfl⟩
    ·simp at hy
    rw[Zi.1 hy];simp only[Zg,Zh,Zkl]at hz;omega
   exact hr y hy
  cases k with
  | zero=>omega
  | succ k =>
   refine Eo.full h hu k f x' (r'++r) ?_ (by omega) (by omega) hrn (by rw[Zs];omega);omega
end
theorem Zo2{T:Tbl}(hf:Few T)(hu:Uq0 T)(hk:KtP T):Da T:=by
 have hd:=hk.dec;have hmsub:(T.map.map Mp.fr).Sublist (T.sta.map Sp.fr):=by
  rw[hk.map.fr];exact List.filter_sublist.map _
 have hmpw:(T.map.map Mp.fr).Pairwise (· < ·):=hk.map.sp.pw.sublist hmsub;have hprosub:(T.pro.map Mp.fr).Sublist [48,109,945,1072,1632]:=by
  have:=(hk.pro.sub.trans (Zit _ _)).map Prod.fst;rw[Zjy]at this;exact this
 have hpin:∀ m∈T.pro,(m.fr,m.to_)∈Dg:=fun m hm=>(hk.pro.sub.trans (Zit _ _)).subset (Zld.2 ⟨m,hm,rfl⟩)
 have hign:∀ c:Int,c ∉ J7→(Wp T.ign c==1)=false:=fun c hc=>by
  have:=Zsc (l:=T.ign) (c:=c) (fun s hs=>⟨(hk.ign.one s hs).1,fun e=>hc (by rw[← e];exact hk.ign.pool hs)⟩);rw[this];rfl
 have hxin:∀ c∈T.exc,∃ m∈T.dec,m.fr=c:=fun c hc=>by
  obtain⟨m,hm,e⟩:=Zld.1 (hd.xs.subset hc);exact⟨m,hm,e⟩
 have hxpw:T.exc.Pairwise (· < ·):=hd.pw.sublist hd.xs;refine⟨?_,?_,?_,?_,?_,?_,?_,?_,?_,hf,hu,?_,?_⟩
 ·intro j p z hp hz
  match j with
  | 0=>cases hp;cases hz;exact hk.cat.ok
  | 1=>cases hp;cases hz;exact hk.cls.ok
  | 2=>cases hp;cases hz;exact hk.joi.ok
  | 3=>cases hp;cases hz;exact hk.bid.ok
  | 4=>cases hp;cases hz;exact hk.scr.ok
  | 5=>cases hp;cases hz;exact hk.map.sp.ok
  | 6=>cases hp;cases hz;exact hk.ign.ok
  | _+7=>simp[Zzq]at hp
 ·intro j p hp
  match j with
  | 0 =>
   cases hp
   rcases hk.ext with e | ⟨v,e⟩
   ·rw[e];exact⟨by simp,by simp,fun i x y _ h=>by simp at h,fun _=>by simp,fun h=>by omega⟩
   rw[e];refine⟨by simp,fun m hm=>?_,fun i x y hi h=>?_,fun _ m hm=>?_,fun h=>by omega⟩
   ·rw[Zi.1 hm];exact⟨by show(0:Int)≤12539;omega,by show(12539:Int)≤1114111;omega,.inl (by show Iv 12539=false;decide),by simp,by simp⟩
   ·rw[List.getElem?_cons]at h;split at h
    ·omega
    simp at h
   rw[Zi.1 hm];refine⟨fun c hc=>?_,fun i x y hi hx hy=>?_⟩
   ·simp at hc;omega
   match i with
   | 1=>simp at hx hy;omega
   | _+2=>simp at hx
  | 1 =>
   cases hp
   refine⟨by have:=hf.rows.2.1;exact this,fun m hm=>?_,fun i x y hi hx hy=>Ztd hmpw hi (by rw[Zn,hx];rfl) (by rw[Zn,hy];rfl),fun h=>by omega,fun _ m hm c hc=>?_⟩
   ·have h1:=hk.map.frs m hm;obtain⟨v,_,_,h2⟩:=hk.map.tos m hm;have h3:∀ c∈([947,7684,128512]:List Int),0≤c∧c≤1114111∧Iv c=false:=by decide
    obtain⟨q1,q2,q3⟩:=h3 _ h1;refine⟨q1,q2,.inl q3,?_,?_⟩<;>(rcases h2 with h2|h2<;>rw[h2]<;>simp)
   obtain⟨v,h1,h2,h3⟩:=hk.map.tos m hm;have hcv:c=v∨c=46:=by rcases h3 with h3|h3<;>rw[h3]at hc<;>simp at hc<;>omega
   unfold Zyg;rcases hcv with rfl|rfl
   ·simp;omega
   decide
  | 2 =>
   cases hp
   refine⟨by have:=hf.rows.1;exact this,fun m hm=>?_,fun i x y hi hx hy=>Ztd hd.pw hi (by rw[Zn,hx];rfl) (by rw[Zn,hy];rfl),fun h=>by omega,fun _ m hm c hc=>?_⟩
   ·have h1:=hd.fr_in hm;have h2:=hd.to_len hm;refine⟨by omega,by omega,.inl ?_,h2.1,by omega⟩;unfold Iv Bu Ix;simp;omega
   have h1:=hd.fr_in hm;have h2:=hd.to_in hm hc;unfold Zyg;simp;omega
  | 3 =>
   cases hp
   have hpw:(T.pro.map Mp.fr).Pairwise (· < ·):=(show([48,109,945,1072,1632]:List Int).Pairwise (· < ·) by decide).sublist hprosub;have hall:∀ q∈Dg,0≤q.1∧q.1≤1114111∧(Iv q.1=false∨Zpi q.1=true)∧1≤q.2.length∧q.2.length≤18∧∀ c∈q.2,Zyg c=true:=by decide
   refine⟨by have:=hf.rows.2.2.1;exact this,fun m hm=>?_,fun i x y hi hx hy=>Ztd hpw hi (by rw[Zn,hx];rfl) (by rw[Zn,hy];rfl),fun h=>by omega,fun _ m hm c hc=>(hall _ (hpin m hm)).2.2.2.2.2 c hc⟩;obtain⟨q1,q2,q3,q4,q5,_⟩:=hall _ (hpin m hm);exact⟨q1,q2,q3.imp id fun h=>⟨rfl,h⟩,q4,q5⟩
  | _+4=>simp[Cq]at hp
 ·have:=hd.len.2;omega
 ·intro c hc;obtain⟨m,hm,rfl⟩:=hxin c hc;have h1:=hd.fr_in hm;refine⟨by omega,by omega,?_,?_⟩
  ·unfold Iv Bu Ix;simp;omega
  rw[hu m hm];have:=(hd.to_len hm).1;intro e;rw[e]at this;simp at this
 ·exact fun i x y hi hx hy=>Ztd hxpw hi hx hy
 ·have:=congrArg List.length hk.map.fr;rw[Zq,Zq]at this;exact this.symm
 ·intro m hm;have h1:m.fr∈(T.sta.filter fun s=>s.val==3).map Sp.fr:=by rw[← hk.map.fr];exact Zld.2 ⟨m,hm,rfl⟩
  obtain⟨s,hs,hsf⟩:=Zld.1 h1;obtain⟨hs1,hs3⟩:=Zhv.1 hs;have hp:=Zti _ (hk.map.sp.pool hs1);rw[hsf]at hp;refine⟨?_,fun c hc=>?_⟩
  ·unfold Zs3;rw[Zlq (by rintro(h|h|h)<;>simp_all),Zlq hp.2.2.2.2.2.2.1,← hsf,Zp4 hk.map.sp.pw (fun x hx=>(hk.map.sp.one x hx).1) s hs1];simpa using hs3
  obtain⟨v,h2,h3,h4⟩:=hk.map.tos m hm;have hcv:c=v∨c=46:=by rcases h4 with h4|h4<;>rw[h4]at hc<;>simp at hc<;>omega
  unfold Zs3;rw[Zlm];rcases hcv with rfl|rfl
  ·left;unfold Zpi;simp;omega
  right;left;rfl
 ·intro m hm;refine⟨(hd.to_len hm).2,fun c hc=>?_⟩;have h1:=hd.fr_in hm;have h2:=hd.to_in hm hc;unfold Bu Ix;refine⟨by omega,?_,?_⟩<;>simp<;>omega
 ·intro m hm;have h1:=hd.fr_in hm;exact Eo.full hd hu 5 257 m.fr [] (by omega) (by omega) (by omega) (by simp) (by simp)
 ·intro i j a b hji ha hb hca _ e;have hx:=hd.tw i j a b hji ha hb e;have h2:(Xg T.dec a.fr).length=2:=by
   refine Zjv fun hn=>?_
   unfold Gr at hca;rw[Fm hn]at hca;simp at hca
  match hh:Xg T.dec a.fr with
  | [x,y] =>
   unfold Gr at hca;rw[Jy hh,Zlm (.inl (by unfold Zw5;rw[Zkr];exact⟨a.fr,hx,by simp⟩))]at hca;simp at hca
  | []=>rw[hh]at h2;simp at h2
  | [_]=>rw[hh]at h2;simp at h2
  | _::_::_::_=>rw[hh]at h2;simp at h2
 intro m hm;have hp:=hpin m hm;obtain⟨h1,h2⟩:=hk.pro.ign m hm;have hpo:∀ c:Int,c≠48→c≠109→c≠945→c≠1072→c≠1632→Xg T.pro c=[]:=fun c n1 n2 n3 n4 n5=>Pt fun m' hm' e=>by
  have:=hprosub.subset (Zld.2 ⟨m',hm',rfl⟩);simp only[Zg,Zh,Zkl]at this;omega
 have hfr:m.fr<7680:=by
  simp only[Dg,Zg,Zh,Zkl,Zhd]at hp;omega
 refine⟨hd.o (.inl hfr),h1,fun c hc=>?_⟩;simp only[Dg,Zg,Zh,Zkl,Zhd]at hp;rcases hp with⟨_,e⟩ | ⟨_,e⟩ | ⟨_,e⟩ | ⟨_,e⟩ | ⟨_,e⟩<;>rw[e]at hc h2<;>simp only[Zg,Zh,Zkl]at hc
 ·subst hc;exact⟨hd.o (by omega),h2,by decide,hpo _ (by omega) (by omega) (by omega) (by omega) (by omega)⟩
 ·rcases hc with rfl|rfl
  ·exact⟨hd.o (by omega),hign _ (by decide),by decide,hpo _ (by omega) (by omega) (by omega) (by omega) (by omega)⟩
  exact⟨hd.o (by omega),h2,by decide,hpo _ (by omega) (by omega) (by omega) (by omega) (by omega)⟩
 ·subst hc;exact⟨hd.o (by omega),h2,by decide,hpo _ (by omega) (by omega) (by omega) (by omega) (by omega)⟩
 ·subst hc;exact⟨hd.o (by omega),h2,by decide,hpo _ (by omega) (by omega) (by omega) (by omega) (by omega)⟩
 rcases hc with rfl|rfl
 ·exact⟨hd.o (by omega),hign _ (by decide),by decide,hpo _ (by omega) (by omega) (by omega) (by omega) (by omega)⟩
 exact⟨hd.o (by omega),h2,by decide,hpo _ (by omega) (by omega) (by omega) (by omega) (by omega)⟩
end
theorem Zr3:(Tryz.prog.info? 37).map (·.size)=some 2:=by kernel_rfl
def Zoh(w:World)(e:Ending)(w':World):Prop:=∃ (cl cp:Int) (v:Value) (os:List OpS),e=.returned (.tuple #[.agg #[.int .i64 cl,.int .i64 cp],v])∧Vy w' (fun _=>True) v (os.map Subtype.val)∧Mj os∧Ext w w'
theorem Znh(a0 a1 a2:Option Addr)(len0 cap0 len1 cap1 len2 cap2:Nat)(all:Bool)(w:World)(r0:Km w a0 len0)(r1:Km w a1 len1)(r2:Km w a2 len2):Calls Tryz.prog 17 #[.slice a0 len0 cap0,.slice a1 len1 cap1,.slice a2 len2 cap2,.bool all] w (Zoh w):=by
 have R0:=Ya r0;have R1:=Ya r1;have R2:=Ya r2;have X0:=Ya ((Yn w).alloc (.cells #[.int .i64 0,.int .i64 0] 37));have RB:=Ya (Zl2 w (.cells #[.int .i64 0,.int .i64 0] 37));clear r0 r1 r2;go_enter Tryz.func17,Tryz.ntmps17;go_wp2_with fail;obtain⟨rb,hrb⟩:=gnX (w.heap.size);obtain⟨W0,hW0⟩:=gnX (w.alloc (.cells #[.int .i64 0,.int .i64 0] 37));have Hrb:=Ya hrb;rw[hrb]at RB;rw[hW0]at X0 RB;rw[hW0,hrb];clear hW0 hrb;refine(Zrf _ _ _ _ (Km.extE R2.o X0.o)).mono ?_;rintro e wb ⟨cl,cp,h1,h2,h3,h4,rfl,hxb⟩;obtain⟨n,rfl⟩:∃ n:Nat,cl=n:=⟨cl.toNat,by omega⟩;have Hc:=Ya (Zrg h1 h2 h3 h4);have RB1:=Ya ((hxb.block (Zln.1 RB.o).1).trans RB.o);have X1:=Ya (X0.o.trans hxb);have hn0:0<n:=by omega
 have hn4:n≤4:=by omega
 have hrl:=(Zln.1 RB1.o).1;clear hxb h1 h2 h3 h4 RB X0;go_upto_region 2 with fail;have CB:=Ya (Xr.new wb #[.int .i64 (n:Int),.int .i64 cp] 37);have xa:=(Yn wb).alloc (.cells #[.int .i64 (n:Int),.int .i64 cp] 37);have RB2:=Ya ((xa.block hrl).trans RB1.o);have X2:=Ya (X1.o.trans xa);obtain⟨cb,hcb⟩:=gnX (wb.heap.size);obtain⟨W1,hW1⟩:=gnX (wb.alloc (.cells #[.int .i64 (n:Int),.int .i64 cp] 37));have hrc:rb<cb:=by rw[← hcb];exact hrl
 rw[hcb,hW1]at CB;rw[hW1]at RB2 X2;rw[hW1,hcb];clear hW1 hcb xa RB1 X1 hrl;refine Zli (S:=fun w'=>w'.cell? ⟨cb,0,none⟩=some (.int .i64 (n:Int))∧w'.cell? ⟨cb,1,none⟩=some (.int .i64 cp)) (by kernel_rfl) ⟨CB.o.at_ 0 (by simp),CB.o.at_ 1 (by simp)⟩ (fun hHeld=>?_);have CD:=Ya (CB.o.ext (Yn W1).drew);have RD:=Ya (((Yn W1).drew.block (Zln.1 RB2.o).1).trans RB2.o);have XD:=Ya X2.o.drew;obtain⟨Wd,hWd⟩:=gnX (W1.drew);rw[hWd]at CD RD XD hHeld;rw[hWd];clear hWd CB RB2 X2;refine Xz [0,2] 7 (by rfl) (by kernel_rfl) (by kernel_rfl) (fun _ _ d _ _ h=>by cases d<;>exact h) hHeld ?_;simp only[Z1,Z2,Z3,Zw,Zx];repeat(refine Xw (v:=?_) (by kernel_rfl) ?_ ?_;rotate_left;(focus((intro wT hST;(try obtain⟨hS1,hS2⟩:=hST);go_simp);(first|done|(with_reducible rfl))));(try simp only[Act.put,Zv,Zu,Zt]))
 refine Xv ?_;clear hHeld;refine Zlp (rs:=[1]) (by kernel_rfl) (by simp) ?_;refine Yt (o:=_) rfl (fun K hK=>?_) Ys;go_simp;refine(Zwa _ _ _ _ (Km.extE R1.o XD.o)).mono ?_;rintro e wa ⟨T,rfl,hT,hf,hu,hk,hxa⟩;have G:=Ya (Zo2 hf hu hk);have TA:=Ya hT;have CA:=Ya (CD.o.ext hxa);have RA:=Ya ((hxa.block (Zln.1 RD.o).1).trans RD.o);have XA:=Ya (XD.o.trans hxa);clear hT hf hu hk hxa CD RD XD;refine hK.out _ _ ⟨CA.o.at_ 0 (by simp),CA.o.at_ 1 (by simp)⟩ (fun hHeld=>?_);clear hHeld hK K;try simp only[Act.put,Zv,Zu,Zt]
 refine Zlp (rs:=[3]) (by kernel_rfl) (by simp) ?_;refine Yt (o:=_) rfl (fun K hK=>?_) Ys;go_simp;refine(Cj T G.o n cp hn0 (by omega) Hc.o _ TA.o).mono ?_;rintro e w2 ⟨b,d,U,rfl,hD,hml,hmn,hq1,hn',ht',hq2,hq3,hq4,hx2⟩;obtain⟨B,hB⟩:=gnX (wa.heap.size);rw[hB]at hD;have hcB:cb<B:=by rw[← hB];exact CA.o.lt
 have HwB:=Ya (show w.heap.size≤B by rw[← hB];exact XA.o.size);have D2:=Ya hD;have L2:=Ya (show Em d from fun j p z h1 _ h3=>absurd (by rw[hmn j p h1];rfl) h3);have Hml:=Ya hml;have Hn0:=Ya hn';have Ht0:=Ya ht';have C2:=Ya (CA.o.ext hx2);have R3:=Ya ((hx2.block (Zln.1 RA.o).1).trans RA.o);have X3:=Ya (XA.o.trans hx2);clear hD hml hmn hn' ht' hx2 hB CA RA XA TA hq1 hq2 hq3 hq4;refine hK.out _ _ ⟨C2.o.at_ 0 (by simp),C2.o.at_ 1 (by simp)⟩ (fun hHeld=>?_);clear hK K;try simp only[Act.put,Zv,Zu,Zt]
 refine Xz [4,5,6,7,8] 0 (by rfl) (by kernel_rfl) (by kernel_rfl) (fun _ _ d _ _ h=>by cases d<;>exact h) hHeld ?_;simp only[Z1,Z2,Z3,Zw,Zx];repeat(refine Xw (v:=?_) (by kernel_rfl) ?_ ?_;rotate_left;(focus((intro wT hST;(try obtain⟨hS1,hS2⟩:=hST);go_simp);(first|done|(with_reducible rfl))));(try simp only[Act.put,Zv,Zu,Zt]))
 refine Xv ?_;clear hHeld;refine Zlb (by kernel_rfl) ?_ _;go_wp2_with fail;refine(Cz _ _ _ _ (Km.extE R0.o X3.o)).mono ?_;rintro e w3 ⟨v,l,rfl,hv,hl65,hx3⟩;have D3:=Ya (D2.o.ext hx3);have C3:=Ya (C2.o.ext hx3);have R4:=Ya ((hx3.block (Zln.1 R3.o).1).trans R3.o);have X4:=Ya (X3.o.trans hx3);obtain⟨Al,Cl,rfl,_,_⟩:=hv.shape;obtain⟨m,hm⟩:=gnX (l.length);have HL:=Ya (show RdE Zxw w3 (fun k=>¬ U k) (.slice Al l.length Cl) l from Rd.mono hv fun k hk _ hu=>by have:=(D2.o.hU k hu).2;have hk:w2.heap.size≤k:=hk;omega);have Hm:=Ya hm;rw[hm]at HL hl65;rw[hm];clear hv hx3 hm D2 C2 R3 X3;go_wp2_with fail;go_loopw [32] (fun o wr=>∃ (i:Nat) (d:Dk) (U:Nat→Prop),i≤m∧o=.int .i64 (i:Int)∧Wv wr U T b B d∧Em d∧d.ms.length=n∧d.n≤i∧d.t=i∧Ext w wr∧Xr wr cb [.int .i64 (n:Int),.int .i64 cp]∧wr.heap[rb]?=some (.cells #[.int .i64 0,.int .i64 0] 37)∧RdE Zxw wr (fun k=>¬ U k) (.slice Al m Cl) l) (fun o _=>m-(intOf o).toNat);case atStart=>exact⟨0,d,U,by omega,rfl,D3.o,L2.o,Hml.o,by rw[Hn0.o];omega,Ht0.o,X4.o,C3.o,R4.o,HL.o⟩
 clear D3 C3 R4 L2 Hml Hn0 Ht0 HL X4 d U;obtain⟨i,d,U,hi,rfl,hD,hL,hml,hn',ht',hx,hc,hr,hl⟩:=hrel;rename World=>wr
 have D1:=Ya hD;have L1:=Ya hL;have Hml:=Ya hml;have Hn0:=Ya hn';have Ht0:=Ya ht';have X5:=Ya hx;have C5:=Ya hc;have R5:=Ya hr;have HL:=Ya hl;clear hD hL hml hn' ht' hx hc hr hl;by_cases hlt:i<m
 ·obtain⟨hd_i,i0_i,i1_i⟩:=LTl i m;obtain⟨a,ha⟩:=geX (l:=l) (i:=i) (by rw[Hm.o];exact hlt);obtain⟨g,o,c',hvv,_,_,_,hgl,hcc⟩:=Rd.at_ HL.o (k:=i) (by rw[Hm.o];exact hlt);simp only[Yg]at hvv;obtain⟨rfl,-,rfl⟩:=hvv;obtain⟨e0,e1,e2,e3⟩:=Zz0 ha;have a0:=hcc _ _ e0;have a1:=hcc _ _ e1;have a2:=hcc _ _ e2;have a3:=hcc _ _ e3;rw[← Zki]at a1 a2 a3;clear hcc e0 e1 e2 e3 ha;go_wp2_with fail;refine(Zoa T G.o.few G.o b B d a.kind a.cl a.n a.text _ (D1.o.ext ((Yn _).alloc _)) (by have:=Hn0.o;omega) (by have:=Ht0.o;omega) L1.o (by rw[Hml.o];exact hn0)).mono ?_;rintro e w7 ⟨r,d',U',rfl,hD,hL,hC0,hml',ht',hn',hu'⟩;have hC:Chg (fun k=>B≤k) _ _:=hC0.mono fun q _ hq=>(D1.o.hU q hq).1
  have D7:=Ya hD;have L7:=Ya hL;have xa:=(Yn wr).alloc (.cells #[.int .i64 a.kind,.int .i64 a.cl,.int .i64 a.n,.string a.text] 78);have X7:=Ya ((X5.o.trans xa).chg_new hC (fun q hq=>Zlo HwB.o hq));have C7:=Ya ((C5.o.ext xa).chg hC (by omega));have R7:=Ya (by
   have h1:=(xa.block (Zln.1 R5.o).1).trans R5.o;exact(hC.block rb (Zln.1 h1).1 (by omega)).trans h1)
  have h8:=Rd.mono (T:=fun k=>¬ U k∧k<(wr.alloc (.cells #[.int .i64 a.kind,.int .i64 a.cl,.int .i64 a.n,.string a.text] 78)).heap.size) (RdE.ext HL.o xa) fun k hk hl=>⟨hk,hl⟩
  have h9:=Rd.chg h8 hC0 (fun k hk=>hk.1);have HL7:=Ya (Rd.mono (T:=fun k=>¬ U' k) h9 fun k hk _ hu=>(hu' k hu).elim hk.1 fun h=>by have:=hk.2;omega);clear h8 h9;have Hml':=Ya hml';have Ht':=Ya ht';have Hn':=Ya hn';clear hD hL hC hC0 hml' ht' hn' hu' a0 a1 a2 a3 xa;go_wp2_with fail;go_roundw;case rel=>exact⟨i+1,d',U',by omega,by go_num,D7.o,L7.o,by rw[Hml'.o];exact Hml.o,by have:=Hn'.o;have:=Hn0.o;omega,by rw[Ht'.o,Ht0.o],X7.o,C7.o,R7.o,HL7.o⟩
  (simp[intOf];omega)
 have hd_i:=GEl i m;obtain rfl:i=m:=by omega
 have hrl:=(Zln.1 R5.o).1;go_upto_if 40 with fail;go_cut [] (fun wq=>∃ (d:Dk) (U:Nat→Prop),Wv wq U T b B d∧Ext w wq∧Xr wq cb [.int .i64 (n:Int),.int .i64 cp]∧wq.heap[rb]?=some (.cells #[.int .i64 0,.int .i64 0] 37));case first =>
  cases all with
  | false =>
   go_wp2_with fail;go_meet;exact⟨d,U,D1.o,X5.o,C5.o,R5.o⟩
  | true =>
   go_wp2_with fail;refine(Zwn T G.o.few G.o b B 20000 (Yp _) d _ D1.o L1.o (by have:=Hn0.o;omega) (by have:=Ht0.o;omega) (by rw[Hml.o];exact hn4)).mono ?_;rintro e w6 ⟨z,d',U',rfl,hD,hL,hC,_⟩;have D6:=Ya hD;have X6:=Ya (X5.o.chg_new hC (fun q hq=>Zlo HwB.o hq));have C6:=Ya (C5.o.chg hC (by omega));have R6:=Ya ((hC.block rb hrl (by omega)).trans R5.o);clear hD hL hC;go_wp2_with fail;go_meet;exact⟨d',U',D6.o,X6.o,C6.o,R6.o⟩
 clear D1 L1 Hml Hn0 Ht0 X5 C5 R5 HL d U;obtain⟨d,U,hD,hx,hc,hr⟩:=hcut;rename World=>w6
 have D6:=Ya hD;have X6:=Ya hx;have C6:=Ya hc;have R6:=Ya hr;obtain⟨Ao,Co,hov,_,_⟩:=hD.own.shape;obtain⟨no,hno⟩:=gnX (d.ops.length);rw[hno]at hov;have Hov:=Ya hov;clear hD hx hc hr hov hno;go_upto_region 13 with fail;refine Zli (S:=fun w'=>w'.cell? ⟨cb,0,none⟩=some (.int .i64 (n:Int))∧w'.cell? ⟨cb,1,none⟩=some (.int .i64 cp)) (by kernel_rfl) ⟨C6.o.at_ 0 (by simp),C6.o.at_ 1 (by simp)⟩ (fun hHeld=>?_);have Dd:=Ya (D6.o.ext (Yn w6).drew);have Xd:=Ya X6.o.drew;have Cd:=Ya (C6.o.ext (Yn w6).drew);have Rd_:=Ya (((Yn w6).drew.block (Zln.1 R6.o).1).trans R6.o);obtain⟨Wd,hWd⟩:=gnX (w6.drew);rw[hWd]at Dd Xd Cd Rd_ hHeld;rw[hWd];clear hWd D6 X6 C6 R6;have cst:Chg (· = rb) Wd (Wd.setCells rb 0 [.int .i64 (n:Int),.int .i64 cp]):=Xp (S:=(· = rb)) (.inl rfl) (Chg.refl _ _);have hth:=(Zml Rd_.o).there (o:=0) (n:=2) (by simp);have hra:=Zif Wd rb 0 [.int .i64 (n:Int),.int .i64 cp] hth;have c3:Wd.cell? ⟨b,3,none⟩=some (.slice Ao no Co):=by rw[← Hov.o];exact Dd.o.c 3 rfl
 have nbr:b≠rb:=by have:=(Dd.o.hU b Dd.o.ub).1;omega
 have ncr:cb≠rb:=by omega
 have q0:=Ya (hra 0 _ rfl);have q1:=Ya (hra 1 _ rfl);have ZO:=Ya (Dd.o.opsFar (by omega) Rd_.o (by intro u hu s e;subst e;simp at hu) cst);have ZX:=Ya (Xd.o.chg_new cst (fun q e=>by rw[e,← Hrb.o];exact Yp _));have ZF:=Ya (show Mj d.ops from⟨Dd.o.lo,fun o ho=>(Dd.o.n16 o ho).2.fitO⟩);have d3:=(cst.cell (p:=⟨b,3,none⟩) Dd.o.cells.lt nbr).trans c3;have e0:=(cst.cell (p:=⟨cb,0,none⟩) Cd.o.lt ncr).trans (Cd.o.at_ 0 (by simp));have e1:=(cst.cell (p:=⟨cb,1,none⟩) Cd.o.lt ncr).trans (Cd.o.at_ 1 (by simp));rw[Hov.o]at ZO;have Hth:=Ya hth;obtain⟨Ws,hWs⟩:=gnX (Wd.setCells rb 0 [.int .i64 (n:Int),.int .i64 cp]);rw[hWs]at q0 q1 ZO ZX d3 e0 e1;clear cst hth hra;refine Xz [0,1] 3 (by rfl) (by kernel_rfl) (by kernel_rfl) (fun _ _ d _ _ h=>by cases d<;>exact h) hHeld ?_;simp only[Z1,Z2,Z3,Zw,Zx];repeat(refine Xw (v:=?_) (by kernel_rfl) ?_ ?_;rotate_left;(focus((intro wT hST;(try obtain⟨hS1,hS2⟩:=hST);go_simp);(first|done|(with_reducible rfl))));(try simp only[Act.put,Zv,Zu,Zt]))
 refine Xv ?_;refine Zlp (rs:=[2]) (by kernel_rfl) (by simp) ?_;refine Yt (o:=_) rfl (fun K hK=>?_) Ys;go_simp;refine(Zv5 _ b Ao no Co c3).mono ?_;rintro e w7 ⟨rfl,rfl⟩;refine hK.out _ _ hHeld (fun hHeld=>?_);clear hK K hHeld;try simp only[Act.put,Zv,Zu,Zt]
 refine Zlp (rs:=[3]) (by kernel_rfl) (by simp) ?_;refine Yt (o:=_) rfl (fun K hK=>?_) Ys;refine Vr rfl _ _ _ rfl rb 0 #[.int .i64 (n:Int),.int .i64 cp] rfl rfl Hth.o (by rw[Zr3];rfl) (by simp[Value.oneCell']) ?_;rw[show Wd.setCells rb 0 (#[.int .i64 (n:Int),.int .i64 cp]:Array Value).toList=Ws from hWs];refine hK.out _ _ ⟨e0,e1⟩ (fun hHeld=>?_);clear hK K;try simp only[Act.put,Zv,Zu,Zt]
 refine Xz [4] 0 (by rfl) (by kernel_rfl) (by kernel_rfl) (fun _ _ d _ _ h=>by cases d<;>exact h) hHeld ?_;simp only[Z1,Z2,Z3,Zw,Zx];repeat(refine Xw (v:=?_) (by kernel_rfl) ?_ ?_;rotate_left;(focus((intro wT hST;(try obtain⟨hS1,hS2⟩:=hST);go_simp);(first|done|(with_reducible rfl))));(try simp only[Act.put,Zv,Zu,Zt]))
 refine Xv ?_;clear hHeld;refine Zlb (by kernel_rfl) ?_ _;go_wp2_with fail;refine Yu (v:=.tuple #[.agg #[.int .i64 (n:Int),.int .i64 cp],.slice Ao no Co]) (by simp[results,Tryz.results17,go_sem,q0.o,q1.o]) rfl ?_;exact⟨_,_,_,_,rfl,ZO.o,ZF.o,ZX.o⟩
end Go.Proofs.YtnbclgbicnpmnaaGreat
