/- Lemmas of this claim: OpW, AppW, Expl, Law28a, Early, Srch, Fit, EnP, RPf, Last2. Conditions: as named. -/
import Derived.WalkMore
import Derived.Test.YtnbclgbicnpmnaaGreatA26
import Derived.Test.YtnbclgbicnpmnaaGreatA30
import Derived.Test.YtnbclgbicnpmnaaGreatA31
namespace Go.Proofs.YtnbclgbicnpmnaaGreat
open Go.RowKit Go.Sort Tryz
set_option maxHeartbeats 0
set_option maxRecDepth 100000
set_option linter.all false
theorem Zy8{ops:Array Oper}{C:World→Prop}{Q:Act→Prop}{rest:List Oper}{dst:Option Nat}{x:Operand}{t:TypeId}{pos:String}{af:Array Edge}{gd:Option (Nat×Bool)}{a:Act}{b p:Nat}{o:Opn}
 (hw:Region.wanted {dst:=dst,op:=.load 55 x,type:=t,pos:=pos,after:=af,guard:=gd} (yielded ops a.tmps)=true) (hx:a.eval x=.pointer (some ⟨b,p,none⟩)) (hC:∀ w',C w'→Uv w' b p o)
 (hK:wpQuiet prog ops C Q rest (a.put dst (opV o))):wpQuiet prog ops C Q ({dst:=dst,op:=.load 55 x,type:=t,pos:=pos,after:=af,guard:=gd}::rest) a:=by
 have hu:=Zxk;rw[Zjl]at hu;obtain⟨d,hu,hd⟩:=hu;show if _ then _ else _
 rw[Zjx hw];refine⟨opV o,fun w' hc=>?_,hK⟩;unfold Oper.quietAt execOp;simp only[hx,Instr.loadAt,Instr.sureAddr,Zhs,Zhr,Zir,run_loadVar_mid w' b p _ (opC o) d (hC w' hc).range hu hd (by rw[Lj];rfl)];exact⟨rfl,rfl⟩
structure I6(w:World)(H:Nat)(v:Value)(os:List OpS):Prop where
 own:Own opE w H v os
 nms:∀ o∈os,Vw w (fun k=>k<H) o.1.nv o.1.ns
theorem I6.opsAt{w:World}{H:Nat}{v:Value}{os:List OpS}(h:I6 w H v os):V6 w (fun _=>True) v (os.map Subtype.val):=by
 refine⟨?_,fun o ho=>?_⟩
 ·have h1:=Own.rd (E:=opE) h.own;rw[Zq];exact Rd.mono h1 fun _ _ _=>trivial
 obtain⟨x,hx,rfl⟩:=Zjs.1 ho;exact Rd.mono (h.nms x hx) fun _ _ _=>trivial
theorem I6.set{w:World}{H g n c:Nat}{os:List OpS}(h:I6 w H (.slice (some ⟨g,0,none⟩) n c) os){z f:Nat}{o o':OpS}{vs:List Value}(hz:os[z]?=some o)(hf:f+vs.length≤23)(he:opC o'.1=(opC o.1).take f++(vs++(opC o.1).drop (f+vs.length)))
 (hn:Vw w (fun k=>k<H) o'.1.nv o'.1.ns):I6 (w.setCells g (z*23+f) vs) H (.slice (some ⟨g,0,none⟩) n c) (os.set z o'):=by
 have c:Chg (· = g) w (w.setCells g (z*23+f) vs):=Xl (S:=(· = g)) (.inl rfl) (Chg.refl _ _);have hb:=h.own.blk;have hS:∀ j,j<H→¬ j=g:=fun j hj e=>by omega
 refine⟨?_,fun q hq=>?_⟩
 ·have h0:=h.own;unfold Own at h0⊢;rw[Zf];have h1:=Ms (vs:=vs) (p:=z*23+f) h0;have e:Zxu (opE.cells os) (z*23+f) vs=opE.cells (os.set z o'):=by
   show Zxu (Gj (os.map Subtype.val)) (z*23+f) vs=Gj ((os.set z o').map Subtype.val);rw[Te (o:=o.1) (o':=o'.1) (by rw[Zn,hz];rfl) hf he,Zi4]
  rw[e]at h1;exact h1
 rcases Zij hq with h1|rfl
 ·exact Rd.chg (h.nms q h1) c hS
 exact Rd.chg hn c hS
def Zk2(o:Opn):Prop:=I64 o.cl∧I64 o.dec∧-9223372036854775808≤o.res.tick∧KS o.ns
def Zqz(os:List OpS):Prop:=os.length≤4096∧∀ o∈os,Zk2 o.1
theorem I5.fitO{o:Opn}(h:I5 o):Zk2 o:=by
 obtain⟨h1,h2,h3,h4,h5,h6⟩:=h;exact⟨by unfold I64;omega,by unfold I64;omega,by omega,h5⟩
section
section
variable {α:Type} {ops:Array Oper} {rest:List Oper} {o:Oper} {a:Act} {w:World} {Q:Exit→Act→World→Prop} {K:Act→World→Prop} {B:Nat} {S:Nat→Prop} {v x:Value} {l m:List α}
theorem Zlm(E:Enc α)(s y:Operand)(t:TypeId)(ho:o.op=.call {callee:=.builtin .append,args:=#[s,y],argTypes:=#[t,t]})(ht:t=E.sl)(hs:a.eval s=v)(hown:Own E w B v l)
 (hx:a.eval y=x) (hr:RdE E w S x m) (h63:l.length+m.length≤maxLen) (hby:(l.length+m.length)*E.bytes≤140737488355328) (hB:B≤w.heap.size)
 (h:∀ A n c w',Grew E w B v (l++m) A n c w'→K (a.put o.dst (.slice A n c)) w'):o.wp prog a w K Q:=by
 subst ht;refine Ky w s y E.sl ho B E.ty E.i E.zero E.z E.bytes E.und E.info E.hz E.hs E.hb E.hc E.pos v l.length (E.cells l) hs hown S x m.length (E.cells m) hx hr (E.one m) h63 hby hB ?_;intro v' w' ha;obtain⟨A,n,c,rfl,hg⟩:=Ztt hown ha;exact h A n c w' hg
theorem Bj(E:Enc α)(s y:Operand)(t:TypeId)(hgd:o.guard=none)(ho:o.op=.call {callee:=.builtin .append,args:=#[s,y],argTypes:=#[t,t]})(ht:t=E.sl)(hs:a.eval s=v)(hown:Own E w B v l)
 (hx:a.eval y=x) (hr:RdE E w S x m) (h63:l.length+m.length≤maxLen) (hby:(l.length+m.length)*E.bytes≤140737488355328) (hB:B≤w.heap.size)
 (h:∀ A n c w',Grew E w B v (l++m) A n c w'→wpList prog ops Q rest (a.put o.dst (.slice A n c)) w'):wpList prog ops Q (o::rest) a w :=
 Zgr hgd fun _ hK=>Zlm E s y t ho ht hs hown hx hr h63 hby hB fun A n c w' hg=>hK _ _ (h A n c w' hg)
end
end
theorem Zu4{cl cap client op ttl now:Int}{l:List Kp}{ns:List Nm}:(doL cl cap l client op ttl now ns).length≤l.length+16:=by
 unfold doL;split
 ·rename_i h;have hp:Oq cl client op ttl now ns:=Ziq h.1;have hlen:(Vy l ns).length≤16:=by rw[Ih];exact hp.l1
  rw[Zy5];have:=Zy7 l (J8 op client (now+ttl) (Vy l ns));have e1:(J8 op client (now+ttl) (Vy l ns)).length=(Vy l ns).length:=by simp[J8]
  omega
 omega
theorem Zp1{cl cp:Int}{l:List Kp}{t:Int}{o:Opn}:(Jm cl cp l t o).2.1.length≤l.length+16:=by
 unfold Jm;split
 ·simp
 split
 ·simp
 exact Zu4
theorem Ri{cl cp:Int}{st:RSt}{o:Opn}:(Vm cl cp st o).2.1.length≤st.1.length+16:=Zp1
theorem Gb{ops:Array Oper}{rest:List Oper}{dst:Option Nat}{x:Operand}{t:TypeId}{pos:String}{af:Array Edge}{gd:Option (Nat×Bool)}{a:Act}{w:World}{Q:Exit→Act→World→Prop}{b p:Nat}{o:Opn}(h:Uv w b p o)
 (hw:Region.wanted {dst:=dst,op:=.load 55 x,type:=t,pos:=pos,after:=af,guard:=gd} (yielded ops a.tmps)=true) (hx:a.eval x=.pointer (some ⟨b,p,none⟩)) (hK:wpList prog ops Q rest (a.put dst (opV o)) w) :
 wpList prog ops Q ({dst:=dst,op:=.load 55 x,type:=t,pos:=pos,after:=af,guard:=gd}::rest) a w:=by
 have hu:=Zxk;rw[Zjl]at hu;obtain⟨d,hu,hd⟩:=hu;show if _ then _ else _
 rw[Zjx hw];exact .inl (wp_load_mid _ x rfl b p hx (opC o) d h.range hu hd (by rw[Lj];rfl) hK)
theorem Vo.get{w:World}{S:Nat→Prop}{v:Value}{l:List Nat}(h:Vo w S v l){j i:Nat}(hj:l[j]?=some i) :
 ∃ g p c,v=.slice (some ⟨g,p,none⟩) l.length c∧l.length≤c∧c≤maxLen∧S g∧g<w.heap.size∧w.cell? ⟨g,p+j,none⟩=some (.int .i64 (i:Int)):=by
 obtain⟨g,p,c,hv,h1,h2,h3,h4,hc⟩:=h.at_ (Zr.1 hj).1;exact⟨g,p,c,hv,h1,h2,h3,h4,hc j _ (by rw[Zn,hj];rfl)⟩
theorem Vo.shape{w:World}{S:Nat→Prop}{v:Value}{l:List Nat}(h:Vo w S v l):∃ A c,v=.slice A l.length c:=by
 obtain⟨_,A,c,hv,_⟩:=h;exact⟨A,c,hv⟩
def Sz(os:List Opn):Prop:=∀ o∈os,∀ n∈o.ns,n.k.size≤maxLen
structure Zkf(w:World)(rb b m:Nat)(cl cp:Int)(os:List Opn)(ord:List Nat)(k:Nat)(st:RSt)(wr:World):Prop where
 rep:Ng wr rb b m cl cp st.1 st.2.1
 is:st=stO cl cp os (ord.take k) ([],0,true)
 few:st.1.length≤16*k
 oks:∀ j,j<k→∀ i o,ord[j]?=some i→os[i]?=some o→(Vm cl cp (stO cl cp os (ord.take j) ([],0,true)) o).1=0
 ext:Ext w wr
 lo:w.heap.size≤rb∧w.heap.size≤m
theorem Sc{S T:Nat→Prop}(sb:Nat)(cl cp:Int)(vo vl:Value)(os:List Opn)(ord:List Nat)(w:World)(hc:V7 cl cp=0)(c0:w.cell? ⟨sb,0,none⟩=some (.int .i64 cl))(c1:w.cell? ⟨sb,1,none⟩=some (.int .i64 cp))(c2:w.cell? ⟨sb,2,none⟩=some vo)(c6:w.cell? ⟨sb,6,none⟩=some vl)
 (ho:V6 w S vo os) (hk:Sz os) (hl:Vo w T vl ord) (hlen:ord.length≤6000) (hm:∀ i∈ord,∃ o,os[i]?=some o) :
 Calls prog 96 #[.pointer (some ⟨sb,0,none⟩)] w fun e w'=>e=.returned (.bool (Aa cl cp os ord ([],0,true)).isNone)∧Ext w w':=by
 obtain⟨A,C,rfl⟩:=ho.shape;obtain⟨A2,C2,rfl⟩:=hl.shape;have hsb:=lt_of_cell c0;obtain⟨n,hnn⟩:=gnX (os.length);obtain⟨q,hqq⟩:=gnX (ord.length);have Hnn:=Y4 hnn;have Hqq:=Y4 hqq;have Ho:=Y4 (ho.mono (T:=fun k=>k<w.heap.size) fun k _ hk=>hk);have Hl:=Y4 hl;have Hk:=Y4 hk;have Hm:=Y4 hm;rw[hnn]at c2;rw[hqq]at c6 hlen;have C2w:=Y4 c2;have C6w:=Y4 c6;clear hnn hqq ho hl hk hm;go_enter func96,ntmps96;go_wp2_with fail;refine(Iq cl cp hc _).mono ?_;rintro x w1 ⟨rb,b,m,rfl,hrep,hlo1,hlo2,hx1⟩;replace c2:=(hx1.cell (p:=⟨sb,2,none⟩) hsb).trans c2;replace c6:=(hx1.cell (p:=⟨sb,6,none⟩) hsb).trans c6;have hsb1:=Zk8 hsb hx1.size;have hI:Zkf w rb b m cl cp os ord 0 ([],0,true) w1:=⟨hrep,rfl,by simp,fun j hj=>by omega,hx1,hlo1,hlo2⟩;have HI:=Y4 hI;clear hrep hlo1 hlo2 hx1 hI c0 c1;go_wp2_with fail;go_loopw [4,18] (fun f o wr=>∃ (k:Nat) (st:RSt),k≤q∧o=.int .i64 (k:Int)∧f=.bool st.2.2∧Zkf w rb b m cl cp os ord k st wr) (fun _ o _=>q-(intOf o).toNat);case atStart=>exact⟨0,_,by omega,rfl,rfl,HI.o⟩
 obtain⟨k,st,hkq,rfl,rfl,hI⟩:=hrel;have HI2:=Y4 hI;clear hI HI;by_cases hkl:k<q
 ·have hd:decide ((k:Int)<(q:Int))=true:=by simp;omega
  obtain⟨i,hi⟩:=geX (l:=ord) (i:=k) (by rw[Hqq.o];exact hkl);obtain⟨o,hoi⟩:=Hm.o i (Zy hi);have xw:=HI2.o.ext;obtain⟨g2,p2,c2',hv2,l1,l2,_,hg2,hcell⟩:=(show Vo wr T _ ord from Rd.ext Hl.o xw).get hi;obtain⟨g,p,c,hv,hc1,hc2,hgS,hA,hN⟩:=(Ho.o.ext xw).get hoi;simp only[Ye]at hv hv2;obtain⟨rfl,_,rfl⟩:=hv;obtain⟨rfl,_,rfl⟩:=hv2;have e2:=(xw.cell (p:=⟨sb,2,none⟩) hsb).trans C2w.o;have ha1:c2=c2:=rfl;rw[Hnn.o]at hc1;rw[Hqq.o]at l1;have hin:i<n:=by rw[← Hnn.o];exact(Zr.1 hoi).1
  have q1:(0:Int)≤(i:Int):=by omega
  have q2:(i:Int)<(n:Int):=by omega
  have hC:C≤9223372036854775807:=by unfold maxLen at hc2;omega
  have hC2:C2≤9223372036854775807:=by unfold maxLen at l2;omega
  have hnsh:=hN.shape;obtain⟨nA,nC,hnv⟩:=hnsh;have hone:o.nv.oneCell'=true:=by rw[hnv];rfl
  have Hi:=Y4 hi;have Hoi:=Y4 hoi;have HA:=Y4 hA;have HN:=Y4 hN;clear hi hoi hA hN hnv ha1;go_upto_region 7 with(first|(refine Wl HA.o rfl ?_)|(refine V5 rfl rfl rfl hone ?_));have hN1:=Mu wr o;have xA:Ext wr (wr.alloc (opO o)):=(Yl wr).alloc _;obtain⟨e,he⟩:=gnX (wr.heap.size);obtain⟨W1,hW1⟩:=gnX (wr.alloc (opO o));rw[hW1]at hN1 xA⊢;rw[he]at hN1;simp only[he];have hml:=HI2.o.rep.mod.map.lt;have hrl:=HI2.o.rep.lt;have hem:e≠m∧e≠rb:=by omega
  have HN1:=Y4 hN1;have XA:=Y4 xA;have Hem:=Y4 hem;clear hN1 xA hW1 he hem e2 hcell;try go_frame
  go_cut [4,29,30,34] (fun f f1 f2 v wx=>f=.bool st.2.2∧f1=.bool st.2.2∧f2=.bool st.2.2∧v=.bool (st.2.2&&(o.bad.e==0))∧Ext W1 wx);case first =>
   cases hf:st.2.2 with
   | false =>
    go_wp2_with fail;go_meet;exact⟨by rw[hf],by rw[hf],by rw[hf],by rw[hf];rfl,Yl _⟩
   | true =>
    go_wp2_with (first|(refine Gb HN1.o rfl rfl ?_)|(go_at_call 64;refine(Dc o _).mono ?_;rintro x w3 ⟨rfl,hx3⟩));go_meet;exact⟨by rw[hf],by rw[hf],by rw[hf],by rw[hf];simp[bne],hx3⟩
  obtain⟨rfl,rfl,rfl,rfl,hx3⟩:=hcut;have hI3:=HI2.o.rep.ext (XA.o.trans hx3);have hN3:=HN1.o.ext hx3;have HN3:=Y4 hN3;have HX3:=Y4 ((HI2.o.ext.trans XA.o).trans hx3);have HNm:=Y4 (Rd.ext HN.o (XA.o.trans hx3));have HR3:=Y4 hI3;have z22:wc.cell? ⟨e,22,none⟩=some (.int .i64 o.res.tick):=hN3.2 22 (by omega);have r1:=hI3.c1;have rz:=hI3.z1;clear hx3 hN3 hI3;go_upto_if 34 with fail;go_cut [4] (fun v wx=>v=.bool (Qz st o)∧Ng wx rb b m cl cp st.1 (Jq st o)∧Uv wx e 0 o∧Ext w wx∧Vw wx (fun k=>k<w.heap.size) o.nv o.ns);case first =>
   cases hq:(st.2.2&&(o.bad.e==0))with
   | false =>
    have h1:¬ (st.2.2=true∧o.bad.e=0):=by simpa using hq
    have H1:=Y4 (show Jq st o=st.2.1 by unfold Jq;rw[Zk9 h1]);have H2:=Y4 (show Qz st o=st.2.2 by unfold Qz;rw[Zk9 h1]);clear h1;go_wp2_with fail;go_meet;exact⟨by rw[H2.o],by rw[H1.o];exact HR3.o,HN3.o,HX3.o,HNm.o⟩
   | true =>
    have h1:st.2.2=true∧o.bad.e=0:=by simpa using hq
    have H1:=Y4 (show Jq st o=o.res.tick by unfold Jq;rw[Zjx h1]);have H2:=Y4 (show Qz st o=false by unfold Qz;rw[Zjx h1]);clear h1 hq;go_wp2_with fail;go_meet;have hc:Chg (· = rb) wc (wc.setCell ⟨rb,1,none⟩ (.int .i64 o.res.tick)):=(Chg.refl (· = rb) wc).setCell (.inl rfl) _;refine⟨by rw[H2.o],?_,HN3.o.chg hc Hem.o.2,HX3.o.chg_new hc (fun i hi=>by rw[hi];exact HI2.o.lo.1),Rd.chg HNm.o hc (fun i hi e=>by have:=HI2.o.lo.1;omega)⟩;rw[H1.o];exact⟨(Zjb _ _ _ _ (by simp)).trans HR3.o.c0,Zit _ _ _ r1,Zk8 HR3.o.lt hc.size,HR3.o.nb,HR3.o.nm,(Zj2 _ _ _ _).trans rz,HR3.o.mod.chg hc (fun h=>HR3.o.nb h.symm) (fun h=>HR3.o.nm h.symm)⟩
  obtain⟨rfl,hR4,hN4,hx4,hn4⟩:=hcut;have HN4:=Y4 hN4;have hks:=Hk.o o (Zy Hoi.o);have hfew:=HI2.o.few;have HP:=Y4 (Mo (S:=fun k=>k<w.heap.size) rb b m cl cp st.1 (Jq st o) o wc hR4 (by omega) hn4 hks (by have:=HI2.o.lo.2;omega) (by have:=HI2.o.lo.1;omega));have HX4:=Y4 hx4;clear hR4 hN4 hx4 hn4 hks z22 r1 rz HR3 HN3;go_wp2_with (refine Wl HN4.o rfl ?_);refine Zhx HP.o ?_;rintro x w5 ⟨rfl,hR5,hc5⟩;have hx5:=HX4.o.chg_new hc5 (fun i hi=>by rcases hi with rfl|rfl;exact HI2.o.lo.2;exact HI2.o.lo.1);obtain⟨code,hcode⟩:=gnX ((Jm cl cp st.1 (Jq st o) o).1);have Hcode:=Y4 (show(Vm cl cp st o).1=code from hcode);have HR5:=Y4 hR5;have HX5:=Y4 hx5;rw[hcode];clear hcode hR5 hc5 hx5;by_cases h0:code=0
  ·have hz:(code !=0)=false:=by simp[h0]
   have H0:=Y4 h0;clear h0;go_wp2_with fail;go_roundw;case rel =>
    refine⟨k+1,(Vm cl cp st o).2,by omega,by go_num,rfl,HR5.o,?_,?_,fun j hj i' o' h1 h2=>?_,HX5.o,HI2.o.lo⟩
    ·rw[Rj Hi.o Hoi.o,← HI2.o.is]
    ·have:=Ri (cl:=cl) (cp:=cp) (st:=st) (o:=o);omega
    by_cases ej:j=k
    ·subst ej;have e1:i'=i:=by rw[Hi.o]at h1;exact(Zjy h1).symm
     subst e1;have e2:o'=o:=by rw[Hoi.o]at h2;exact(Zjy h2).symm
     subst e2;rw[← HI2.o.is,Hcode.o,H0.o]
    exact HI2.o.oks j (by omega) i' o' h1 h2
   case measure=>simp[intOf];omega
  have hz:(code !=0)=true:=by simp[h0]
  have HE:=Y4 (show(Aa cl cp os ord ([],0,true)).isNone=false by
   rw[Zxy HI2.o.oks Hm.o Hi.o Hoi.o (by rw[← HI2.o.is,Hcode.o];exact h0)];rfl)
  clear h0;go_wp2_with fail;go_ret;rw[HE.o];exact⟨rfl,HX5.o⟩
 have hd:decide ((k:Int)<(q:Int))=false:=by simp;omega
 have HE:=Y4 (show(Aa cl cp os ord ([],0,true)).isNone=true by
  rw[Zxz (fun j hj=>HI2.o.oks j (by rw[Hqq.o]at hj;omega)) Hm.o];rfl)
 go_wp2_with fail;go_ret;rw[HE.o];exact⟨rfl,HI2.o.ext⟩
def Zr5(w:World)(e:Ending)(w':World):Prop:=∃ cl cp:Int,1≤cl∧cl≤4∧1≤cp∧cp≤6∧e=.returned (.agg #[.int .i64 cl,.int .i64 cp])∧Ext w w'
theorem Zqd(a:Option Addr)(len cap:Nat)(w:World)(hrow:Kd w a len):Calls prog 11 #[.slice a len cap] w (Zr5 w):=by
 obtain⟨A,hA⟩:=gnX (w.heap.size);have hx0:Ext w (w.alloc (.cells #[.int .i64 0,.int .i64 0] 37)):=(Yl w).alloc _;have hsrc:=Gy (cap:=cap) hrow hx0;have c0:((w.alloc (.cells #[.int .i64 0,.int .i64 0] 37)).alloc (.cells #[.slice a len cap,.int .i64 0] 165)).cell? ⟨w.heap.size,0,none⟩=some (.int .i64 0):=by go_simp
 have c1:((w.alloc (.cells #[.int .i64 0,.int .i64 0] 37)).alloc (.cells #[.slice a len cap,.int .i64 0] 165)).cell? ⟨w.heap.size,1,none⟩=some (.int .i64 0):=by go_simp
 have cf:∀ i,((w.alloc (.cells #[.int .i64 0,.int .i64 0] 37)).alloc (.cells #[.slice a len cap,.int .i64 0] 165)).frozen? ⟨w.heap.size,i,none⟩=false:=fun i=>by go_simp
 have hs:((w.alloc (.cells #[.int .i64 0,.int .i64 0] 37)).alloc (.cells #[.slice a len cap,.int .i64 0] 165)).heap.size=w.heap.size+2:=by simp
 have e1:(w.alloc (.cells #[.int .i64 0,.int .i64 0] 37)).heap.size=w.heap.size+1:=by simp
 rw[e1]at hsrc;have hx:Ext w ((w.alloc (.cells #[.int .i64 0,.int .i64 0] 37)).alloc (.cells #[.slice a len cap,.int .i64 0] 165)):=hx0.alloc _;have Hs:=Y4 (And.intro hsrc (And.intro c0 (And.intro c1 (And.intro cf (And.intro hs hx)))));clear hsrc c0 c1 cf hs e1 hx hx0 hrow;go_enter func11,ntmps11;go_wp2_with fail;refine(P8 _ _ _ _).mono ?_;rintro e w0 ⟨rfl,rfl⟩;obtain⟨hsrc,c0,c1,cf,hs,hx⟩:=Hs.o;rw[hA]at c0 c1 cf hs hsrc;have Hx:=Y4 hx;have Hsrc:=Y4 hsrc;have HA:=Y4 hA;obtain⟨W,hW⟩:=gnX ((w.alloc (.cells #[.int .i64 0,.int .i64 0] 37)).alloc (.cells #[.slice a len cap,.int .i64 0] 165));rw[hW]at c0 c1 cf hs Hx Hsrc;clear hx hsrc Hs;go_wp2_with fail;refine(next_any _ _ (by omega) (by omega) _ _ Hsrc.o).mono ?_;rintro e w2 ⟨x,hx,rfl,hsrc2,hc2,hz2⟩;have c0:=(hc2.cell (p:=⟨A,0,none⟩) (by simp only;omega) (by simp only;omega)).trans c0;have c1:=(hc2.cell (p:=⟨A,1,none⟩) (by simp only;omega) (by simp only;omega)).trans c1;have cf:=fun i=>(hc2.frozen (p:=⟨A,i,none⟩) (by simp only;omega) (by simp only;omega)).trans (cf i)
 have Hx2:=Y4 (Hx.o.chg_new hc2 fun i hi=>by have:=HA.o;omega);have Hsrc2:=Y4 hsrc2;have hz:A+2≤w2.heap.size:=by omega
 have p0:(0:Int)≤(x:Int):=by omega
 clear hsrc2 hc2 hz2 Hsrc Hx hW hs hA;go_wp2_with fail;refine(next_any _ _ (by omega) (by omega) _ _ Hsrc2.o).mono ?_;rintro e w3 ⟨y,hy,rfl,hsrc3,hc3,hz3⟩;have c0:=(hc3.cell (p:=⟨A,0,none⟩) (by simp only;omega) (by simp only;omega)).trans c0;have c1:=(hc3.cell (p:=⟨A,1,none⟩) (by simp only;omega) (by simp only;omega)).trans c1;have cf:=fun i=>(hc3.frozen (p:=⟨A,i,none⟩) (by simp only;omega) (by simp only;omega)).trans (cf i)
 have Hx3:=Y4 (Hx2.o.chg_new hc3 fun i hi=>by have:=HA.o;omega);have p1:(0:Int)≤(y:Int):=by omega
 have hz:A+2≤w3.heap.size:=by omega
 clear hsrc3 hc3 hz3 Hsrc2 Hx2;go_wp2_with fail;refine Ys (v:=.agg #[.int .i64 (1+(x:Int)),.int .i64 (1+(y:Int))]) (by simp[results,results11,go_sem, *]) rfl ⟨1+(x:Int),1+(y:Int),by omega,by omega,by omega,by omega,rfl,?_⟩;(repeat refine Ya ?_ (by have:=HA.o;simp only;omega) _)
 exact Hx3.o
theorem Zvz{cl cap:Int}(hc:V7 cl cap=0)(w:World):Calls prog 29 #[.agg #[.int .i64 cl,.int .i64 cap]] w fun e w'=>∃ b,e=.returned (.tuple #[.pointer (some ⟨b,0,none⟩),.int .i64 0])∧Vh w' (fun _=>False) b cl cap []∧w.heap.size≤b∧Ext w w' :=
 (Zs2 cl cap w).mono fun e w' h=>by
   rcases h with⟨h0,_⟩ | ⟨_,h1⟩
   ·rw[hc]at h0;simp at h0
   exact h1
theorem Zqe{cl cap:Int}(h1:1≤cl)(h2:cl≤4)(h3:1≤cap)(h4:cap≤6):V7 cl cap=0:=by unfold V7;rw[Zk9 (by omega)]
def Ja(os:List Opn)(ord:List Nat)(i:Nat):Bool:=(List.range os.length).any fun j=>!(ord.contains j)&&j !=i&&(match os[j]?,os[i]? with|some a,some b=>Oz a b|_,_=>false)
theorem Oh{os:List Opn}{ord:List Nat}{i j:Nat}{a b:Opn}(ha:os[j]?=some a)(hb:os[i]?=some b)(hj:ord.contains j=false)(hne:j≠i)(hp:Oz a b=true):Ja os ord i=true:=by
 unfold Ja;rw[Zii];refine⟨j,Zj9.2 (Zr.1 ha).1,?_⟩;rw[ha,hb];have h1:(j !=i)=true:=by simpa using hne
 simp only[hj,h1,hp,Bool.not_false,Bool.and_self]
theorem Lr{os:List Opn}{ord:List Nat}{i:Nat}(h:∀ j,j<os.length→¬ (ord.contains j=false∧j≠i∧∃ a b,os[j]?=some a∧os[i]?=some b∧Oz a b=true)):Ja os ord i=false:=by
 cases he:Ja os ord i with
 | false=>rfl
 | true =>
  unfold Ja at he;rw[Zii]at he;obtain⟨j,hj,hp⟩:=he;simp only[Zjg,Zig,bne_iff_ne,ne_eq]at hp;cases ha:os[j]? with
  | none=>rw[ha]at hp;simp at hp
  | some a =>
   cases hb:os[i]? with
   | none=>rw[ha,hb]at hp;simp at hp
   | some b =>
    rw[ha,hb]at hp;exact absurd ⟨hp.1.1,hp.1.2,a,b,ha,hb,hp.2⟩ (h j (Zj9.1 hj))
theorem Ie{ops:Array Oper}{S:World→Prop}{op:Oper}{a:Act}(hw:Region.wanted op (yielded ops a.tmps)=true){x:Operand}(ho:op.op=.load 55 x)(b p:Nat)(hx:a.eval x=.pointer (some ⟨b,p,none⟩))(o:Opn)(hS:∀ w,S w→w.rangeAt b p (opC o)):YieldsIf prog ops S op (opV o) a:=by
 have hu:=Zxk;rw[Zjl]at hu;obtain⟨d,hu,hd⟩:=hu;exact yieldsIf_load_mid hw _ x ho b p hx (opC o) d hS hu hd (by rw[Lj];rfl)
def Zlc(w:World)(ib n:Nat)(ord:List Nat):Prop:=ib<w.heap.size∧∀ j,j<n→w.cell? ⟨ib,j,none⟩=some (.bool (ord.contains j))
theorem Zlc.ext{w w':World}{ib n:Nat}{ord:List Nat}(h:Zlc w ib n ord)(x:Ext w w'):Zlc w' ib n ord:=⟨Zk8 h.1 x.size,fun j hj=>(x.cell (p:=⟨ib,j,none⟩) h.1).trans (h.2 j hj)⟩
theorem Zu6{S:Nat→Prop}(sb ib:Nat)(vo:Value)(os:List Opn)(ord:List Nat)(i ic:Nat)(w:World)(c2:w.cell? ⟨sb,2,none⟩=some vo)(c5:w.cell? ⟨sb,5,none⟩=some (.slice (some ⟨ib,0,none⟩) os.length ic))
 (ho:V6 w S vo os) (hin:Zlc w ib os.length ord) (hi:i<os.length) (hlen:os.length≤4096) (_hic:os.length≤ic) (_hic2:ic≤maxLen) :
 Calls prog 95 #[.pointer (some ⟨sb,0,none⟩),.int .i64 i] w fun e w'=>e=.returned (.bool (Ja os ord i))∧Ext w w':=by
 obtain⟨A,C,rfl⟩:=ho.shape;have hsb:=lt_of_cell c2;obtain⟨ob,hob⟩:∃ o,os[i]?=some o:=⟨os[i],Zz hi⟩;obtain⟨n,hnn⟩:=gnX (os.length);have Hnn:=Y4 hnn;have Ho:=Y4 ho;have Hin:=Y4 hin;obtain⟨g,p,c,hv,hc1,hc2,_,_,_⟩:=ho.get hob;simp only[Ye]at hv;obtain⟨rfl,-,rfl⟩:=hv;have Hob:=Y4 hob;rw[hnn]at c2 c5 hi hlen _hic hc1;clear hnn ho hin hob;go_enter func95,ntmps95;go_wp2_with fail;go_loopw [11] (fun o wr=>∃ j:Nat,j≤n∧o=.int .i64 (j:Int)∧Ext w wr∧∀ k,k<j→¬ (ord.contains k=false∧k≠i∧∃ a b,os[k]?=some a∧os[i]?=some b∧Oz a b=true)) (fun o _=>n-(intOf o).toNat);case atStart=>exact⟨0,by omega,rfl,Yl _,fun k hk=>by omega⟩
 obtain⟨j,hj,rfl,hx,hno⟩:=hrel;have Hno:=Y4 hno;have Hx:=Y4 hx;clear hno hx;by_cases hjn:j<n
 ·have hd:decide ((j:Int)<(n:Int))=true:=by simp;omega
  obtain⟨oa,hoa⟩:=geX (l:=os) (i:=j) (by rw[Hnn.o];exact hjn);have k2:=(Hx.o.cell (p:=⟨sb,2,none⟩) hsb).trans c2;have k5:=(Hx.o.cell (p:=⟨sb,5,none⟩) hsb).trans c5;have hinw:=Hin.o.ext Hx.o;have kin:=hinw.2 j (by rw[Hnn.o];exact hjn);have q1:(0:Int)≤(j:Int):=by omega
  have q2:(j:Int)<(n:Int):=by omega
  have Hoa:=Y4 hoa;clear hoa;cases hc:ord.contains j with
  | true =>
   rw[hc]at kin;go_wp2_with fail;go_region;go_wp2_with fail;go_roundw;case rel=>exact⟨j+1,by omega,by go_num,Hx.o.drew,fun k hk=>by
    by_cases e:k=j
    ·subst e;rw[hc];simp
    exact Hno.o k (by omega)⟩
   case measure=>simp[intOf];omega
  | false =>
   rw[hc]at kin;by_cases hji:j=i
   ·have hne:((j:Int)!=(i:Int))=false:=by simp;omega
    have Hji:=Y4 hji;clear hji;go_wp2_with fail;go_region;go_wp2_with fail;go_roundw;case rel=>exact⟨j+1,by omega,by go_num,Hx.o.drew,fun k hk=>by
     by_cases e:k=j
     ·subst e;exact fun h=>h.2.1 Hji.o
     exact Hno.o k (by omega)⟩
    case measure=>simp[intOf];omega
   have hne:((j:Int)!=(i:Int))=true:=by simp;omega
   obtain⟨g',p',c',hv',_,_,_,hA,_⟩:=(Ho.o.ext Hx.o).get Hoa.o;obtain⟨g2,p2,c2',hv2,_,_,_,hB,_⟩:=(Ho.o.ext Hx.o).get Hob.o;simp only[Ye,Yd,Zjp,Zj6,Zjj]at hv' hv2;obtain⟨⟨rfl,rfl⟩,-⟩:=hv';obtain⟨⟨rfl,rfl⟩,-⟩:=hv2;have kA:=hA.range;have kB:=hB.range;have hgl:=hA.1;have hsl:=Zk8 hsb Hx.o.size;have hil:=hinw.1;have q3:(0:Int)≤(i:Int):=by omega
   have q4:(i:Int)<(n:Int):=by omega
   clear hA hB hinw;go_upto_region 4 with fail;refine Zjo (S:=fun w'=>w'.cell? ⟨sb,5,none⟩=some (.slice (some ⟨ib,0,none⟩) n ic)∧w'.cell? ⟨ib,j,none⟩=some (.bool false)∧w'.cell? ⟨sb,2,none⟩=some (.slice (some ⟨g,p,none⟩) n C)∧w'.rangeAt g (p+j*23) (opC oa)∧w'.rangeAt g (p+i*23) (opC ob)) (by kernel_rfl) ⟨k5,kin,k2,kA,kB⟩ (fun hHeld=>?_);refine Xv [0,1,2,3,4,5,6,7,8,9,10,11,12,13,14,15,16,17,18,19] 10 (by rfl) (by kernel_rfl) (by kernel_rfl) (fun _ _ d _ _ h=>by cases d<;>exact h) (by assumption) ?_;simp only[Z3,Z4,Z5,Zw,Zx];repeat(refine Xu (v:=?_) (by kernel_rfl) ?_ ?_;rotate_left;(focus((intro w hSw;(try dsimp only at hSw);go_simp);(first|done|(with_reducible rfl))));(try simp only[Act.put]);(try simp only[Zv]))
   refine Xs ?_;refine Zih (i := 20) (oi := { dst := some 34, op := Op.load 55 (Operand.tmp 33), type := 55, pos := "history.go:129", after := #[{ on := 19, ground := Ground.data }, { on := 13, ground := Ground.guard }], guard := some (13, true) }) (v := opV oa) rfl (by kernel_rfl) (by kernel_rfl) (by kernel_rfl) (fun _ _ _ h => h) ?hy20 (by assumption) ?_;case hy20=>exact Ie (x:=Operand.tmp 33) (by kernel_rfl) rfl g (p+j * 23) (by simp [Act.eval];done) oa fun w h=>h.2.2.2.1
   (try simp only[Act.put]);(try simp only[Zv])
   refine Xv [21,22,23,24,25,26] 3 (by rfl) (by kernel_rfl) (by kernel_rfl) (fun _ _ d _ _ h=>by cases d<;>exact h) (by assumption) ?_;simp only[Z3,Z4,Z5,Zw,Zx];repeat(refine Xu (v:=?_) (by kernel_rfl) ?_ ?_;rotate_left;(focus((intro w hSw;(try dsimp only at hSw);go_simp);(first|done|(with_reducible rfl))));(try simp only[Act.put]);(try simp only[Zv]))
   refine Xs ?_;refine Zih (i := 27) (oi := { dst := some 41, op := Op.load 55 (Operand.tmp 40), type := 55, pos := "history.go:129", after := #[{ on := 26, ground := Ground.data }, { on := 13, ground := Ground.guard }], guard := some (13, true) }) (v := opV ob) rfl (by kernel_rfl) (by kernel_rfl) (by kernel_rfl) (fun _ _ _ h => h) ?hy27 (by assumption) ?_;case hy27=>exact Ie (x:=Operand.tmp 40) (by kernel_rfl) rfl g (p+i * 23) (by simp [Act.eval];done) ob fun w h=>h.2.2.2.2
   (try simp only[Act.put]);(try simp only[Zv])
   refine Zjv (rs:=[28]) (by kernel_rfl) (by simp) ?_;refine Yr (o:=_) rfl (fun K hK=>?_) Yq;go_simp;refine(Zy4 oa ob _).mono ?_;rintro x w4 ⟨rfl,hx4⟩;replace hx4:Ext wr w4:=(Yl wr).drew.trans hx4;replace k2:=(hx4.cell (p:=⟨sb,2,none⟩) hsl).trans k2;replace k5:=(hx4.cell (p:=⟨sb,5,none⟩) hsl).trans k5;replace kin:=(hx4.cell (p:=⟨ib,j,none⟩) hil).trans kin;replace kA:w4.rangeAt g (p+j*23) (opC oa):=fun q v hv=>(hx4.cell (p:=⟨g,p+j*23+q,none⟩) hgl).trans (kA q v hv)
   replace kB:w4.rangeAt g (p+i*23) (opC ob):=fun q v hv=>(hx4.cell (p:=⟨g,p+i*23+q,none⟩) hgl).trans (kB q v hv)
   have HX4:=Y4 (Hx.o.trans hx4);clear hx4;(try go_wp2_with fail);refine hK.out _ _ ?_ (fun hHeld=>?_);(focus((try dsimp only);(first|done|go_keep)));clear hK K;try simp only[Act.put,Zv,Zu,Zt]
   refine Zih (i:=29) (oi:=_) (v:=?_) rfl (by kernel_rfl) (by kernel_rfl) (by kernel_rfl) (fun _ _ _ h=>h) (Or.inl ⟨by rfl,?_⟩) (by assumption) ?_;rotate_left;(focus((intro w hSw;(try dsimp only at hSw);go_simp);(first|done|(with_reducible rfl))));(try simp only[Act.put]);(try simp only[Zv]);refine Zjf (by kernel_rfl) ?_ _;clear hHeld k2 k5 kin kA kB;have Hji:=Y4 hji;clear hji;cases hp:Oz oa ob with
   | true =>
    have HE:=Y4 (Oh Hoa.o Hob.o hc Hji.o hp);go_wp2_with fail;go_ret;rw[HE.o];exact⟨rfl,HX4.o⟩
   | false =>
    go_wp2_with fail;go_roundw;case rel=>exact⟨j+1,by omega,by go_num,HX4.o,fun k hk=>by
     by_cases e:k=j
     ·subst e;rintro⟨_,_,a,b,ha,hb,hab⟩;rw[Hoa.o]at ha;rw[Hob.o]at hb;simp only[Yd]at ha hb;subst ha hb;rw[hp]at hab;simp at hab
     exact Hno.o k (by omega)⟩
    case measure=>simp[intOf];omega
 have hd:decide ((j:Int)<(n:Int))=false:=by simp;omega
 have HE:=Y4 (Lr (fun k hk=>Hno.o k (by rw[Hnn.o]at hk;omega)));go_wp2_with fail;go_ret;rw[HE.o];exact⟨rfl,Hx.o⟩
structure Sx where
 found:Bool
 broken:Bool
 left:Nat
 ord:List Nat
def Bu(cl cp:Int)(os:List Opn)(ord:List Nat):Bool:=(Aa cl cp os ord ([],0,true)).isNone
def Gw(cl cp:Int)(os:List Opn)(rec:Nat→List Nat→Sx):List Nat→Nat→List Nat→Sx
 | [],left,ord=>⟨false,false,left,ord⟩
 | i::c,left,ord =>
  if ord.contains i then Gw cl cp os rec c left ord
  else if left=0 then⟨false,true,0,ord⟩
  else if Ja os ord i then Gw cl cp os rec c (left-1) ord
  else if Bu cl cp os (ord++[i])then
   (if(rec (left-1) (ord++[i])).found||(rec (left-1) (ord++[i])).broken then rec (left-1) (ord++[i])else Gw cl cp os rec c (rec (left-1) (ord++[i])).left ord)
  else Gw cl cp os rec c (left-1) ord
def Kg(cl cp:Int)(os:List Opn):Nat→Nat→List Nat→Sx
 | 0,left,ord=>⟨true,false,left,ord⟩
 | d+1,left,ord=>Gw cl cp os (Kg cl cp os d) (List.range os.length) left ord
def Vd(cl cp:Int)(os:List Opn)(budget:Int):List Nat×Int×Int :=
 if(Qq cl cp os).2≠0 then([],0,(Qq cl cp os).2)
 else if(os.any fun o=>o.ans == -1)=true then([],0,26)
 else if budget<1∨1048576<budget then([],0,3)
 else if(Kg cl cp os os.length budget.toNat []).broken then([],0,28)
 else if(Kg cl cp os os.length budget.toNat []).found then((Kg cl cp os os.length budget.toNat []).ord,budget-(Kg cl cp os os.length budget.toNat []).left,0)
 else([],budget-(Kg cl cp os os.length budget.toNat []).left,23)
theorem Zrk{cl cp:Int}{os:List Opn}{rec:Nat→List Nat→Sx}{i:Nat}{c:List Nat}{left:Nat}{ord:List Nat}(h:ord.contains i=true):Gw cl cp os rec (i::c) left ord=Gw cl cp os rec c left ord:=by
 rw[Gw,Zjx h]
theorem Zvh{cl cp:Int}{os:List Opn}{rec:Nat→List Nat→Sx}{i:Nat}{c:List Nat}{ord:List Nat}(h:ord.contains i=false):Gw cl cp os rec (i::c) 0 ord=⟨false,true,0,ord⟩:=by
 rw[Gw,Zk9 (by rw[h];simp),Zjx rfl]
theorem Pk{cl cp:Int}{os:List Opn}{rec:Nat→List Nat→Sx}{i:Nat}{c:List Nat}{left:Nat}{ord:List Nat}(h:ord.contains i=false)(he:Ja os ord i=true):Gw cl cp os rec (i::c) (left+1) ord=Gw cl cp os rec c left ord:=by
 rw[Gw,Zk9 (by rw[h];simp),Zk9 (by omega),Zjx he,Zic]
theorem Zxl{cl cp:Int}{os:List Opn}{rec:Nat→List Nat→Sx}{i:Nat}{c:List Nat}{left:Nat}{ord:List Nat}(h:ord.contains i=false)(he:Ja os ord i=false)(hx:Bu cl cp os (ord++[i])=false):Gw cl cp os rec (i::c) (left+1) ord=Gw cl cp os rec c left ord:=by
 rw[Gw,Zk9 (by rw[h];simp),Zk9 (by omega),Zk9 (by rw[he];simp),Zk9 (by rw[hx];simp),Zic]
theorem Zxm{cl cp:Int}{os:List Opn}{rec:Nat→List Nat→Sx}{i:Nat}{c:List Nat}{left:Nat}{ord:List Nat}(h:ord.contains i=false)(he:Ja os ord i=false)(hx:Bu cl cp os (ord++[i])=true)(hr:(rec left (ord++[i])).found=true∨(rec left (ord++[i])).broken=true) :
 Gw cl cp os rec (i::c) (left+1) ord=rec left (ord++[i]):=by
 rw[Gw,Zk9 (by rw[h];simp),Zk9 (by omega),Zk9 (by rw[he];simp),Zjx hx,Zic,Zjx (by rcases hr with hr|hr<;>simp[hr])]
theorem Il{cl cp:Int}{os:List Opn}{rec:Nat→List Nat→Sx}{i:Nat}{c:List Nat}{left:Nat}{ord:List Nat}(h:ord.contains i=false)(he:Ja os ord i=false)(hx:Bu cl cp os (ord++[i])=true)(h1:(rec left (ord++[i])).found=false)(h2:(rec left (ord++[i])).broken=false) :
 Gw cl cp os rec (i::c) (left+1) ord=Gw cl cp os rec c (rec left (ord++[i])).left ord:=by
 rw[Gw,Zk9 (by rw[h];simp),Zk9 (by omega),Zk9 (by rw[he];simp),Zjx hx,Zic,Zk9 (by simp[h1,h2])]
theorem Zqz.fits{os:List OpS}(h:Zqz os):∀ o∈os.map Subtype.val,o.fits:=fun o ho=>by
 obtain⟨x,hx,rfl⟩:=Zjs.1 ho;exact⟨(h.2 x hx).1,(h.2 x hx).2.1⟩
theorem Zqz.ticks{os:List OpS}(h:Zqz os):∀ o∈os.map Subtype.val,-9223372036854775808≤o.res.tick:=fun o ho=>by
 obtain⟨x,hx,rfl⟩:=Zjs.1 ho;exact(h.2 x hx).2.2.1
theorem Zqz.keys{os:List OpS}(h:Zqz os):Sz (os.map Subtype.val):=fun o ho n hn=>by
 obtain⟨x,hx,rfl⟩:=Zjs.1 ho;have:=(h.2 x hx).2.2.2 n hn;unfold maxLen;omega
structure OpF(w:World)(b:Nat)(o:Opn):Prop where
 c0:w.cell? ⟨b,0,none⟩=some (.int .i64 o.cl)
 c1:w.cell? ⟨b,1,none⟩=some (.int .i64 o.op)
 c2:w.cell? ⟨b,2,none⟩=some (.int .i64 o.ttl)
 c3:w.cell? ⟨b,3,none⟩=some o.nv
 c22:w.cell? ⟨b,22,none⟩=some (.int .i64 o.res.tick)
theorem Uv.f{w:World}{b:Nat}{o:Opn}(h:Uv w b 0 o):OpF w b o :=
 ⟨(h.2 0 (by omega)),(h.2 1 (by omega)),(h.2 2 (by omega)),(h.2 3 (by omega)),(h.2 22 (by omega))⟩
theorem Ox{ops:Array Oper}{S:World→Prop}{Q:Act→Prop}{l:List Oper}{dst:Option Nat}{x:Operand}{t:TypeId}{pos:String}{af:Array Edge}{gd:Option (Nat×Bool)}{a:Act}{b p:Nat}{r:Ax}
 (hw:Region.wanted {dst:=dst,op:=.load 53 x,type:=t,pos:=pos,after:=af,guard:=gd} (yielded ops a.tmps)=true) (hx:a.eval x=.pointer (some ⟨b,p,none⟩)) (hS:∀ w',S w'→w'.rangeAt b p (Db r))
 (hK:J3 prog ops S Q l (a.put dst (Wu r))):J3 prog ops S Q ({dst:=dst,op:=.load 53 x,type:=t,pos:=pos,after:=af,guard:=gd}::l) a:=by
 refine⟨Wu r,.inl ⟨hw,fun w' hc=>?_⟩,hK⟩;unfold execOp;simp only[hx,Zhs,Ix (hS w' hc),Zir,Zhr]
theorem Rg{ops:Array Oper}{S:World→Prop}{Q:Act→Prop}{l:List Oper}{dst:Option Nat}{x y:Operand}{t s:TypeId}{pos:String}{af:Array Edge}{gd:Option (Nat×Bool)}{a:Act}{r1 r2:Ax}
 (hw:Region.wanted {dst:=dst,op:=.binOp .neq 53 x y s,type:=t,pos:=pos,after:=af,guard:=gd} (yielded ops a.tmps)=true) (hx:a.eval x=Wu r1) (hy:a.eval y=Wu r2)
 (hK:J3 prog ops S Q l (a.put dst (.bool (!Js r1 r2)))):J3 prog ops S Q ({dst:=dst,op:=.binOp .neq 53 x y s,type:=t,pos:=pos,after:=af,guard:=gd}::l) a:=by
 refine⟨_,.inl ⟨hw,fun w' _=>?_⟩,hK⟩;unfold execOp;simp only[hx,hy,Zhs,Dn,Kz,Zir,Zhr]
def Ztg(st:RSt):Int:=if st.2.2=true then -9223372036854775808 else st.2.1
theorem Im{st:RSt}{o:Opn}(hb:o.bad.e=0)(hf : -9223372036854775808≤o.res.tick):o.res.tick<Jq st o↔o.res.tick<Ztg st:=by
 unfold Jq Ztg;cases h:st.2.2
 ·simp
 simp[hb];omega
theorem step_bad(cl cp:Int)(st:RSt){o:Opn}(hb:o.bad.e≠0):Vm cl cp st o=(if Js o.res o.bad then 0 else 26,st):=by
 obtain⟨a,b,c⟩:=st;unfold Vm Jm Jq Qz;simp[hb]
theorem Zrt(cl cp:Int)(st:RSt){o:Opn}(hb:o.bad.e=0)(hf : -9223372036854775808≤o.res.tick)(ht:o.res.tick<Ztg st):(Vm cl cp st o).1=3:=by
 have h1:=(Im (st:=st) hb hf).2 ht;unfold Vm Jm;rw[Zk9 (by omega),Zjx h1]
theorem Zlv(cl cp:Int)(st:RSt){o:Opn}(hb:o.bad.e=0)(hf : -9223372036854775808≤o.res.tick)(ht:¬ o.res.tick<Ztg st):Vm cl cp st o=(if Js (doR cl cp st.1 o.cl o.op o.ttl o.res.tick o.ns) o.res then 0 else 26,(doL cl cp st.1 o.cl o.op o.ttl o.res.tick o.ns,o.res.tick,false)):=by
 have h1:=fun h=>ht ((Im (st:=st) hb hf).1 h)
 have h2:Qz st o=false:=by unfold Qz;cases h:st.2.2<;>simp[hb]
 unfold Vm Jm;rw[Zk9 (by omega),Zk9 h1,h2]
structure Zuv(w:World)(b:Nat)(cl cp:Int)(os:List Opn)(ord:List Nat)(k:Nat)(st:RSt)(wr:World):Prop where
 rep:Vh wr (fun j=>b<j) b cl cp st.1
 is:st=stO cl cp os (ord.take k) ([],0,true)
 few:st.1.length≤16*k
 oks:∀ j,j<k→∀ i o,ord[j]?=some i→os[i]?=some o→(Vm cl cp (stO cl cp os (ord.take j) ([],0,true)) o).1=0
 ext:Ext w wr
 lo:w.heap.size≤b
theorem Zuv.next{w wr w':World}{b:Nat}{cl cp:Int}{os:List Opn}{ord:List Nat}{k i:Nat}{st st':RSt}{o:Opn}(h:Zuv w b cl cp os ord k st wr)(hi:ord[k]?=some i)(ho:os[i]?=some o)(hs:Vm cl cp st o=(0,st'))(hr:Vh w' (fun j=>b<j) b cl cp st'.1)(hx:Ext w w'):Zuv w b cl cp os ord (k+1) st' w' where
 rep:=hr
 is:=by rw[Rj hi ho,← h.is,hs]
 few:=by have h1:=Ri (cl:=cl) (cp:=cp) (st:=st) (o:=o);rw[hs]at h1;have h2:=h.few;simp only at h1;omega
 oks:=fun j hj i' o' h1 h2=>by
  by_cases ej:j=k
  ·subst ej;have e1:i'=i:=by rw[hi]at h1;exact(Zjy h1).symm
   subst e1;have e2:o'=o:=by rw[ho]at h2;exact(Zjy h2).symm
   subst e2;rw[← h.is,hs]
  exact h.oks j (by omega) i' o' h1 h2
 ext:=hx
 lo:=h.lo
section
section
variable {P:Program} {md:Region.Mode} {ops:Array Oper} {Q:Exit→Act→World→Prop} {S:World→Prop}
def Ii(md:Region.Mode)(ops:Array Oper)(z j:Nat):Bool:=((ops[z]?).map fun o=>o.after.any fun e=>Region.binds md e&&e.on==j).getD false
def Zth(md:Region.Mode)(ops:Array Oper)(z:Nat):Bool :=
 (List.range ops.size).all fun j=>(j==z||Ii md ops z j||(List.range ops.size).any fun k=>!(k==z)&&Ii md ops z k&&Ii md ops k j)&&((ops[j]?).map fun o=>o.after.all fun e=>!Region.binds md e||decide (e.on<j)).getD false
theorem Bk{z j:Nat}{oz:Oper}(h:Ii md ops z j=true)(hoz:ops[z]?=some oz):∃ e∈oz.after,Region.binds md e=true∧e.on=j:=by
 unfold Ii at h;rw[hoz]at h;simp only[Zil,Zhm,Zgd]at h;obtain⟨e,he,h⟩:=h;simp only[Zjg,Zfs]at h;exact⟨e,he,h⟩
def F6(md:Region.Mode)(ops:Array Oper)(listed:Array Bool):Prop:=∀ k,listed.getD k false=true→∀ o,ops[k]?=some o→∀ e∈o.after,Region.binds md e=true→listed.getD e.on false=true
theorem F6.set{listed:Array Bool}{i:Nat}(h:F6 md ops listed)(hs:listed.size=ops.size)(hi:i∈Region.ready md ops listed):F6 md ops (listed.setIfInBounds i true):=by
 intro k hk o ho e he hb;obtain⟨h1,h2,o',h3,h4⟩:=mem_ready.1 hi;rw[Jz];split
 ·rfl
 rw[Jz]at hk;by_cases hki:i=k
 ·subst hki;rw[ho]at h3;cases h3
  exact h4 e he hb
 rw[Zk9 (fun h=>hki h.1)]at hk;exact h k hk o ho e he hb
theorem Zyz{z:Nat}(hz:z<ops.size)(hB:Zth md ops z=true):∀ (fuel:Nat) (listed:Array Bool) (a:Act) (w:World),listed.size=ops.size→listed.getD z true=false→F6 md ops listed →
 wpAnyH P md ops (St P ops Q z) S fuel (listed.setIfInBounds z true) a w→wpAny P md ops Q (fuel+1) listed a w:=by
 have hB':=hB;simp only[Zth,Zh1,Zj9,Zjg,Zhv,Zfs,Zii,Zig]at hB';have hbef:∀ j,j<ops.size→∀ o,ops[j]?=some o→∀ e∈o.after,Region.binds md e=true→e.on<j:=fun j hj o ho e he hb=>by
  have h:=(hB' j hj).2;rw[ho]at h;simp only[Zil,Zhm,Zi1,Zhv,Zig,Zjm]at h;rcases h e he with h|h
  ·rw[hb]at h;simp at h
  exact h
 have F1:∀ listed:Array Bool,listed.size=ops.size→listed.getD z true=false→Region.ready md ops listed≠[]:=fun listed hs hzl h0=>by
  have hj:∀ j,j<ops.size→listed.getD j true=true:=fun j=>by
   induction j using Nat.strongRecOn with
   | _ j ih =>
    intro hj;cases hl:listed.getD j true with
    | true=>rfl
    | false =>
     exfalso;have:j∈Region.ready md ops listed:=mem_ready.2 ⟨hj,hl,ops[j],Zjt hj,fun e he hb=>by
      have h1:=hbef j hj _ (Zjt hj) e he hb;have h2:=ih e.on h1 (by omega);simp only[Zjq]at h2⊢;rw[Zjt (by omega)]at h2⊢;exact h2⟩
     rw[h0]at this;simp at this
  rw[hj z hz]at hzl;simp at hzl
 have F2:∀ (listed:Array Bool) i,listed.size=ops.size→i≠z→i∈Region.ready md ops listed→i∈Region.ready md ops (listed.setIfInBounds z true):=fun listed i hs hne hi=>by
  obtain⟨h1,h2,o,h3,h4⟩:=mem_ready.1 hi;refine mem_ready.2 ⟨h1,by rw[Jz,Zk9 (fun h=>hne h.1.symm)];exact h2,o,h3,fun e he hb=>?_⟩;rw[Jz];split
  ·rfl
  exact h4 e he hb
 have F3:∀ listed:Array Bool,listed.size=ops.size→F6 md ops listed→z∈Region.ready md ops listed→Region.ready md ops (listed.setIfInBounds z true)=[]:=fun listed hs hcl hi=>by
  obtain⟨h1,h2,o,h3,h4⟩:=mem_ready.1 hi;rw[Zi5];intro j hj;obtain⟨j1,j2,_⟩:=mem_ready.1 hj;rw[Jz]at j2;by_cases hjz:z=j
  ·rw[Zjx ⟨hjz,by omega⟩]at j2;simp at j2
  rw[Zk9 (fun h=>hjz h.1)]at j2;have h5:listed.getD j false=true:=by
   rcases(hB' j j1).1 with(h|h) | ⟨k,hk,⟨hkz,h⟩,h'⟩
   ·exact absurd h.symm hjz
   ·obtain⟨e,he,hb,hon⟩:=Bk h h3;rw[← hon];exact h4 e he hb
   obtain⟨e,he,hb,hon⟩:=Bk h h3;have h6:=h4 e he hb;rw[hon]at h6;obtain⟨e',he',hb',hon'⟩:=Bk h' (Zjt hk);rw[← hon'];exact hcl k h6 _ (Zjt hk) e' he' hb'
  simp only[Zjq]at h5 j2;rw[Zjt (by omega)]at h5 j2;simp at h5 j2;rw[h5]at j2;simp at j2
 intro fuel
 induction fuel with
 | zero =>
  rintro listed a w hs hzl hcl ⟨hr,hq⟩;refine⟨fun h=>absurd h (F1 listed hs hzl),fun i hi=>?_⟩;by_cases hiz:i=z
  ·subst hiz;exact Zft (fun a' w' h=>⟨F3 listed hs hcl hi,h⟩) hq
  have:=F2 listed i hs hiz hi;rw[hr]at this;simp at this
 | succ fuel ih =>
  rintro listed a w hs hzl hcl ⟨hr,hq⟩;refine⟨fun h=>absurd h (F1 listed hs hzl),fun i hi=>?_⟩;by_cases hiz:i=z
  ·subst hiz;have h0:=F3 listed hs hcl hi;exact Zft (fun a' w' h=>⟨fun _=>h,by rw[h0];simp⟩) (hr h0)
  have h1:=hq i (F2 listed i hs hiz hi);refine Zft (fun a' w' h=>?_) (Zyy h1);refine ih (listed.setIfInBounds i true) a' w' (by simp[hs]) (by rw[Jz,Zk9 (fun h=>hiz h.1)];exact hzl) (hcl.set hs hi) ?_;rw[Array.setIfInBounds_comm true true hiz];exact h.2
theorem Gu{id:Nat}{a:Act}{w:World}(z n:Nat)(hn:ops.size=n+1)(hz:z<ops.size)(hB:Zth .any ops z=true)(hm:P.follows .mixedOrders=true)(hS:S w.drew)
 (h:S w.drew→wpAnyH P .any ops (St P ops Q z) S n ((Array.replicate ops.size false).setIfInBounds z true) a w.drew):(Code.region id ops true).wp P Q a w:=by
 refine wp_region_any hm ?_;rw[hn];have h2:=h hS;rw[hn]at h2;have hz':z<n+1:=hn▸hz;refine Zyz hz hB n _ a _ (by simp[hn]) (by simp[Zjq,hz']) (fun k hk=>?_) h2;simp only[Zjq,Array.getElem?_replicate]at hk;by_cases hkn:k<n+1<;>simp[hkn]at hk
end
end
