/- Lemmas of this claim: Early, Srch, HSr, Last2. Conditions: as named. -/
import Derived.Test.YtnbclgbicnpmnaaGreatA10
import Derived.Test.YtnbclgbicnpmnaaGreatA16
import Derived.Test.YtnbclgbicnpmnaaGreatA17
import Derived.Test.YtnbclgbicnpmnaaGreatA22
import Derived.Test.YtnbclgbicnpmnaaGreatA24
import Derived.Test.YtnbclgbicnpmnaaGreatA48
namespace Go.Proofs.YtnbclgbicnpmnaaGreat
open Go.RowKit Go.Sort
set_option maxHeartbeats 0
set_option maxRecDepth 100000
set_option linter.all false
def Qm(os:List Opn)(ord:List Nat)(i:Nat):Bool:=(List.range os.length).any fun j=>!(ord.contains j)&&j !=i&&(match os[j]?,os[i]? with|some a,some b=>Ba a b|_,_=>false)
theorem Zxn{os:List Opn}{ord:List Nat}{i j:Nat}{a b:Opn}(ha:os[j]?=some a)(hb:os[i]?=some b)(hj:ord.contains j=false)(hne:j≠i)(hp:Ba a b=true):Qm os ord i=true:=by
 unfold Qm;rw[Zkr];refine⟨j,Zkf.2 (Zr.1 ha).1,?_⟩;rw[ha,hb];have h1:(j !=i)=true:=by simpa using hne
 simp only[hj,h1,hp,Bool.not_false,Bool.and_self]
theorem I2{os:List Opn}{ord:List Nat}{i:Nat}(h:∀ j,j<os.length→¬ (ord.contains j=false∧j≠i∧∃ a b,os[j]?=some a∧os[i]?=some b∧Ba a b=true)):Qm os ord i=false:=by
 cases he:Qm os ord i with
 | false=>rfl
 | true =>
  unfold Qm at he;rw[Zkr]at he;obtain⟨j,hj,hp⟩:=he;simp only[Zl7,Zkm,bne_iff_ne,ne_eq]at hp;cases ha:os[j]? with
  | none=>rw[ha]at hp;simp at hp
  | some a =>
   cases hb:os[i]? with
   | none=>rw[ha,hb]at hp;simp at hp
   | some b =>
    rw[ha,hb]at hp;exact absurd ⟨hp.1.1,hp.1.2,a,b,ha,hb,hp.2⟩ (h j (Zkf.1 hj))
theorem Iz{ops:Array Oper}{S:World→Prop}{op:Oper}{a:Act}(hw:Region.wanted op (yielded ops a.tmps)=true){x:Operand}(ho:op.op=.load 55 x)(b p:Nat)(hx:a.eval x=.pointer (some ⟨b,p,none⟩))(o:Opn)(hS:∀ w,S w→w.rangeAt b p (opC o)):YieldsIf Tryz.prog ops S op (opV o) a:=by
 have hu:=Ol;rw[Zl0]at hu;obtain⟨d,hu,hd⟩:=hu;exact yieldsIf_load_mid hw _ x ho b p hx (opC o) d hS hu hd (by rw[Jx];rfl)
def Zms(w:World)(ib n:Nat)(ord:List Nat):Prop:=ib<w.heap.size∧∀ j,j<n→w.cell? ⟨ib,j,none⟩=some (.bool (ord.contains j))
theorem Zms.ext{w w':World}{ib n:Nat}{ord:List Nat}(h:Zms w ib n ord)(x:Ext w w'):Zms w' ib n ord:=⟨Zlr h.1 x.size,fun j hj=>(x.cell (p:=⟨ib,j,none⟩) h.1).trans (h.2 j hj)⟩
theorem Zv6{S:Nat→Prop}(sb ib:Nat)(vo:Value)(os:List Opn)(ord:List Nat)(i ic:Nat)(w:World)(c2:w.cell? ⟨sb,2,none⟩=some vo)(c5:w.cell? ⟨sb,5,none⟩=some (.slice (some ⟨ib,0,none⟩) os.length ic))
 (ho:Vy w S vo os) (hin:Zms w ib os.length ord) (hi:i<os.length) (hlen:os.length≤4096) (_hic:os.length≤ic) (_hic2:ic≤maxLen) :
 Calls Tryz.prog 95 #[.pointer (some ⟨sb,0,none⟩),.int .i64 i] w fun e w'=>e=.returned (.bool (Qm os ord i))∧Ext w w':=by
 obtain⟨A,C,rfl⟩:=ho.shape;have hsb:=lt_of_cell c2;obtain⟨ob,hob⟩:∃ o,os[i]?=some o:=⟨os[i],Zz hi⟩;obtain⟨n,hnn⟩:=gnX (os.length);have Hnn:=Ya hnn;have Ho:=Ya ho;have Hin:=Ya hin;obtain⟨g,p,c,hv,hc1,hc2,_,_,_⟩:=ho.get hob;simp only[Yg]at hv;obtain⟨rfl,-,rfl⟩:=hv;have Hob:=Ya hob;rw[hnn]at c2 c5 hi hlen _hic hc1;clear hnn ho hin hob;go_enter Tryz.func95,Tryz.ntmps95;go_wp2_with fail;go_loopw [11] (fun o wr=>∃ j:Nat,j≤n∧o=.int .i64 (j:Int)∧Ext w wr∧∀ k,k<j→¬ (ord.contains k=false∧k≠i∧∃ a b,os[k]?=some a∧os[i]?=some b∧Ba a b=true)) (fun o _=>n-(intOf o).toNat);case atStart=>exact⟨0,by omega,rfl,Yn _,fun k hk=>by omega⟩
 obtain⟨j,hj,rfl,hx,hno⟩:=hrel;have Hno:=Ya hno;have Hx:=Ya hx;clear hno hx;by_cases hjn:j<n
 ·have hd:decide ((j:Int)<(n:Int))=true:=by simp;omega
  obtain⟨oa,hoa⟩:=geX (l:=os) (i:=j) (by rw[Hnn.o];exact hjn);have k2:=(Hx.o.cell (p:=⟨sb,2,none⟩) hsb).trans c2;have k5:=(Hx.o.cell (p:=⟨sb,5,none⟩) hsb).trans c5;have hinw:=Hin.o.ext Hx.o;have kin:=hinw.2 j (by rw[Hnn.o];exact hjn);have q1:(0:Int)≤(j:Int):=by omega
  have q2:(j:Int)<(n:Int):=by omega
  have Hoa:=Ya hoa;clear hoa;cases hc:ord.contains j with
  | true =>
   rw[hc]at kin;go_wp2_with fail;go_region;go_wp2_with fail;go_roundw;case rel=>exact⟨j+1,by omega,by go_num,Hx.o.drew,fun k hk=>by
    by_cases e:k=j
    ·subst e;rw[hc];simp
    exact Hno.o k (by omega)⟩
   case measure=>simp[intOf];omega
  | false =>
   rw[hc]at kin;by_cases hji:j=i
   ·have hne:((j:Int)!=(i:Int))=false:=by simp;omega
    have Hji:=Ya hji;clear hji;go_wp2_with fail;go_region;go_wp2_with fail;go_roundw;case rel=>exact⟨j+1,by omega,by go_num,Hx.o.drew,fun k hk=>by
     by_cases e:k=j
     ·subst e;exact fun h=>h.2.1 Hji.o
     exact Hno.o k (by omega)⟩
    case measure=>simp[intOf];omega
   have hne:((j:Int)!=(i:Int))=true:=by simp;omega
   obtain⟨g',p',c',hv',_,_,_,hA,_⟩:=(Ho.o.ext Hx.o).get Hoa.o;obtain⟨g2,p2,c2',hv2,_,_,_,hB,_⟩:=(Ho.o.ext Hx.o).get Hob.o;simp only[Yg,Yf,Zlh,Zky,Zlc]at hv' hv2;obtain⟨⟨rfl,rfl⟩,-⟩:=hv';obtain⟨⟨rfl,rfl⟩,-⟩:=hv2;have kA:=hA.range;have kB:=hB.range;have hgl:=hA.1;have hsl:=Zlr hsb Hx.o.size;have hil:=hinw.1;have q3:(0:Int)≤(i:Int):=by omega
   have q4:(i:Int)<(n:Int):=by omega
   clear hA hB hinw;go_upto_region 4 with fail;refine Zli (S:=fun w'=>w'.cell? ⟨sb,5,none⟩=some (.slice (some ⟨ib,0,none⟩) n ic)∧w'.cell? ⟨ib,j,none⟩=some (.bool false)∧w'.cell? ⟨sb,2,none⟩=some (.slice (some ⟨g,p,none⟩) n C)∧w'.rangeAt g (p+j*23) (opC oa)∧w'.rangeAt g (p+i*23) (opC ob)) (by kernel_rfl) ⟨k5,kin,k2,kA,kB⟩ (fun hHeld=>?_);refine Xz [0,1,2,3,4,5,6,7,8,9,10,11,12,13,14,15,16,17,18,19] 10 (by rfl) (by kernel_rfl) (by kernel_rfl) (fun _ _ d _ _ h=>by cases d<;>exact h) (by assumption) ?_;simp only[Z1,Z2,Z3,Zw,Zx];repeat(refine Xw (v:=?_) (by kernel_rfl) ?_ ?_;rotate_left;(focus((intro w hSw;(try dsimp only at hSw);go_simp);(first|done|(with_reducible rfl))));(try simp only[Act.put]);(try simp only[Zv]))
   refine Xv ?_;refine Zkh (i := 20) (oi := { dst := some 34, op := Op.load 55 (Operand.tmp 33), type := 55, pos := "history.go:129", after := #[{ on := 19, ground := Ground.data }, { on := 13, ground := Ground.guard }], guard := some (13, true) }) (v := opV oa) rfl (by kernel_rfl) (by kernel_rfl) (by kernel_rfl) (fun _ _ _ h => h) ?hy20 (by assumption) ?_;case hy20=>exact Iz (x:=Operand.tmp 33) (by kernel_rfl) rfl g (p+j * 23) (by simp [Act.eval];done) oa fun w h=>h.2.2.2.1
   (try simp only[Act.put]);(try simp only[Zv])
   refine Xz [21,22,23,24,25,26] 3 (by rfl) (by kernel_rfl) (by kernel_rfl) (fun _ _ d _ _ h=>by cases d<;>exact h) (by assumption) ?_;simp only[Z1,Z2,Z3,Zw,Zx];repeat(refine Xw (v:=?_) (by kernel_rfl) ?_ ?_;rotate_left;(focus((intro w hSw;(try dsimp only at hSw);go_simp);(first|done|(with_reducible rfl))));(try simp only[Act.put]);(try simp only[Zv]))
   refine Xv ?_;refine Zkh (i := 27) (oi := { dst := some 41, op := Op.load 55 (Operand.tmp 40), type := 55, pos := "history.go:129", after := #[{ on := 26, ground := Ground.data }, { on := 13, ground := Ground.guard }], guard := some (13, true) }) (v := opV ob) rfl (by kernel_rfl) (by kernel_rfl) (by kernel_rfl) (fun _ _ _ h => h) ?hy27 (by assumption) ?_;case hy27=>exact Iz (x:=Operand.tmp 40) (by kernel_rfl) rfl g (p+i * 23) (by simp [Act.eval];done) ob fun w h=>h.2.2.2.2
   (try simp only[Act.put]);(try simp only[Zv])
   refine Zlp (rs:=[28]) (by kernel_rfl) (by simp) ?_;refine Yt (o:=_) rfl (fun K hK=>?_) Ys;go_simp;refine(Zqc oa ob _).mono ?_;rintro x w4 ⟨rfl,hx4⟩;replace hx4:Ext wr w4:=(Yn wr).drew.trans hx4;replace k2:=(hx4.cell (p:=⟨sb,2,none⟩) hsl).trans k2;replace k5:=(hx4.cell (p:=⟨sb,5,none⟩) hsl).trans k5;replace kin:=(hx4.cell (p:=⟨ib,j,none⟩) hil).trans kin;replace kA:w4.rangeAt g (p+j*23) (opC oa):=fun q v hv=>(hx4.cell (p:=⟨g,p+j*23+q,none⟩) hgl).trans (kA q v hv)
   replace kB:w4.rangeAt g (p+i*23) (opC ob):=fun q v hv=>(hx4.cell (p:=⟨g,p+i*23+q,none⟩) hgl).trans (kB q v hv)
   have HX4:=Ya (Hx.o.trans hx4);clear hx4;(try go_wp2_with fail);refine hK.out _ _ ?_ (fun hHeld=>?_);(focus((try dsimp only);(first|done|go_keep)));clear hK K;try simp only[Act.put,Zv,Zu,Zt]
   refine Zkh (i:=29) (oi:=_) (v:=?_) rfl (by kernel_rfl) (by kernel_rfl) (by kernel_rfl) (fun _ _ _ h=>h) (Or.inl ⟨by rfl,?_⟩) (by assumption) ?_;rotate_left;(focus((intro w hSw;(try dsimp only at hSw);go_simp);(first|done|(with_reducible rfl))));(try simp only[Act.put]);(try simp only[Zv]);refine Zlb (by kernel_rfl) ?_ _;clear hHeld k2 k5 kin kA kB;have Hji:=Ya hji;clear hji;cases hp:Ba oa ob with
   | true =>
    have HE:=Ya (Zxn Hoa.o Hob.o hc Hji.o hp);go_wp2_with fail;go_ret;rw[HE.o];exact⟨rfl,HX4.o⟩
   | false =>
    go_wp2_with fail;go_roundw;case rel=>exact⟨j+1,by omega,by go_num,HX4.o,fun k hk=>by
     by_cases e:k=j
     ·subst e;rintro⟨_,_,a,b,ha,hb,hab⟩;rw[Hoa.o]at ha;rw[Hob.o]at hb;simp only[Yf]at ha hb;subst ha hb;rw[hp]at hab;simp at hab
     exact Hno.o k (by omega)⟩
    case measure=>simp[intOf];omega
 have hd:decide ((j:Int)<(n:Int))=false:=by simp;omega
 have HE:=Ya (I2 (fun k hk=>Hno.o k (by rw[Hnn.o]at hk;omega)));go_wp2_with fail;go_ret;rw[HE.o];exact⟨rfl,Hx.o⟩
structure Sx where
 found:Bool
 broken:Bool
 left:Nat
 ord:List Nat
def Fi(cl cp:Int)(os:List Opn)(ord:List Nat):Bool:=(Iu cl cp os ord ([],0,true)).isNone
def J9(cl cp:Int)(os:List Opn)(rec:Nat→List Nat→Sx):List Nat→Nat→List Nat→Sx
 | [],left,ord=>⟨false,false,left,ord⟩
 | i::c,left,ord =>
  if ord.contains i then J9 cl cp os rec c left ord
  else if left=0 then⟨false,true,0,ord⟩
  else if Qm os ord i then J9 cl cp os rec c (left-1) ord
  else if Fi cl cp os (ord++[i])then
   (if(rec (left-1) (ord++[i])).found||(rec (left-1) (ord++[i])).broken then rec (left-1) (ord++[i])else J9 cl cp os rec c (rec (left-1) (ord++[i])).left ord)
  else J9 cl cp os rec c (left-1) ord
def Qn(cl cp:Int)(os:List Opn):Nat→Nat→List Nat→Sx
 | 0,left,ord=>⟨true,false,left,ord⟩
 | d+1,left,ord=>J9 cl cp os (Qn cl cp os d) (List.range os.length) left ord
def Wm(cl cp:Int)(os:List Opn)(budget:Int):List Nat×Int×Int :=
 if(Vl cl cp os).2≠0 then([],0,(Vl cl cp os).2)
 else if(os.any fun o=>o.ans == -1)=true then([],0,26)
 else if budget<1∨1048576<budget then([],0,3)
 else if(Qn cl cp os os.length budget.toNat []).broken then([],0,28)
 else if(Qn cl cp os os.length budget.toNat []).found then((Qn cl cp os os.length budget.toNat []).ord,budget-(Qn cl cp os os.length budget.toNat []).left,0)
 else([],budget-(Qn cl cp os os.length budget.toNat []).left,23)
theorem Zsk{cl cp:Int}{os:List Opn}{rec:Nat→List Nat→Sx}{i:Nat}{c:List Nat}{left:Nat}{ord:List Nat}(h:ord.contains i=true):J9 cl cp os rec (i::c) left ord=J9 cl cp os rec c left ord:=by
 rw[J9,Zlm h]
theorem On{cl cp:Int}{os:List Opn}{rec:Nat→List Nat→Sx}{i:Nat}{c:List Nat}{ord:List Nat}(h:ord.contains i=false):J9 cl cp os rec (i::c) 0 ord=⟨false,true,0,ord⟩:=by
 rw[J9,Zlq (by rw[h];simp),Zlm rfl]
theorem Om{cl cp:Int}{os:List Opn}{rec:Nat→List Nat→Sx}{i:Nat}{c:List Nat}{left:Nat}{ord:List Nat}(h:ord.contains i=false)(he:Qm os ord i=true):J9 cl cp os rec (i::c) (left+1) ord=J9 cl cp os rec c left ord:=by
 rw[J9,Zlq (by rw[h];simp),Zlq (by omega),Zlm he,Zkd]
theorem Zy1{cl cp:Int}{os:List Opn}{rec:Nat→List Nat→Sx}{i:Nat}{c:List Nat}{left:Nat}{ord:List Nat}(h:ord.contains i=false)(he:Qm os ord i=false)(hx:Fi cl cp os (ord++[i])=false):J9 cl cp os rec (i::c) (left+1) ord=J9 cl cp os rec c left ord:=by
 rw[J9,Zlq (by rw[h];simp),Zlq (by omega),Zlq (by rw[he];simp),Zlq (by rw[hx];simp),Zkd]
theorem P9{cl cp:Int}{os:List Opn}{rec:Nat→List Nat→Sx}{i:Nat}{c:List Nat}{left:Nat}{ord:List Nat}(h:ord.contains i=false)(he:Qm os ord i=false)(hx:Fi cl cp os (ord++[i])=true)(hr:(rec left (ord++[i])).found=true∨(rec left (ord++[i])).broken=true) :
 J9 cl cp os rec (i::c) (left+1) ord=rec left (ord++[i]):=by
 rw[J9,Zlq (by rw[h];simp),Zlq (by omega),Zlq (by rw[he];simp),Zlm hx,Zkd,Zlm (by rcases hr with hr|hr<;>simp[hr])]
theorem Tg{cl cp:Int}{os:List Opn}{rec:Nat→List Nat→Sx}{i:Nat}{c:List Nat}{left:Nat}{ord:List Nat}(h:ord.contains i=false)(he:Qm os ord i=false)(hx:Fi cl cp os (ord++[i])=true)(h1:(rec left (ord++[i])).found=false)(h2:(rec left (ord++[i])).broken=false) :
 J9 cl cp os rec (i::c) (left+1) ord=J9 cl cp os rec c (rec left (ord++[i])).left ord:=by
 rw[J9,Zlq (by rw[h];simp),Zlq (by omega),Zlq (by rw[he];simp),Zlm hx,Zkd,Zlq (by simp[h1,h2])]
structure El(w:World)(sb base:Nat)(cl cp:Int)(vo:Value)(budget used:Int)(vl:Value)(ord:List Nat):Prop where
 blk:Xr w sb [.int .i64 cl,.int .i64 cp,vo,.int .i64 budget,.int .i64 used,vl]
 row:Own Zpg w base vl ord
 bs:sb<base
 bw:base≤w.heap.size
theorem El.ext{w w':World}{sb base:Nat}{cl cp:Int}{vo:Value}{budget used:Int}{vl:Value}{ord:List Nat}(h:El w sb base cl cp vo budget used vl ord)(x:Ext w w'):El w' sb base cl cp vo budget used vl ord:=⟨h.blk.ext x,h.row.ext x,h.bs,Zlo h.bw x.size⟩
theorem El.c{w:World}{sb base:Nat}{cl cp:Int}{vo:Value}{budget used:Int}{vl:Value}{ord:List Nat}(h:El w sb base cl cp vo budget used vl ord)(j:Nat){v:Value}(hv:([.int .i64 cl,.int .i64 cp,vo,.int .i64 budget,.int .i64 used,vl]:List Value)[j]?=some v):w.cell? ⟨sb,j,none⟩=some v:=by
 rw[h.blk.at_ j (Zr.1 hv).1,hv]
theorem El.nats{w:World}{sb base:Nat}{cl cp:Int}{vo:Value}{budget used:Int}{vl:Value}{ord:List Nat}(h:El w sb base cl cp vo budget used vl ord):Vg w (fun k=>base≤k) vl ord:=h.row.rd
theorem Fy(sb base:Nat)(cl cp:Int)(vo:Value)(budget used:Int)(vl:Value)(ord:List Nat)(i:Nat)(w:World)(h:El w sb base cl cp vo budget used vl ord) :
 Calls Tryz.prog 97 #[.pointer (some ⟨sb,0,none⟩),.int .i64 (i:Int)] w fun e w'=>e=.returned (.bool (ord.contains i))∧Ext w w':=by
 have c5:=h.c 5 rfl;obtain⟨A,C,rfl,hlC,hC⟩:=h.row.shape;obtain⟨m,hm⟩:=gnX (ord.length);have H:=Ya h;have Hm:=Ya hm;rw[hm]at c5 H hlC;unfold maxLen at hC;clear h hm;go_enter Tryz.func97,Tryz.ntmps97;go_wp2_with fail;go_loopw [12] (fun o wr=>∃ j:Nat,j≤m∧o=.int .i64 (j:Int)∧wr=w∧∀ q,q<j→ord[q]?≠some i) (fun o _=>m-(intOf o).toNat);case atStart=>exact⟨0,by omega,rfl,rfl,fun q hq=>by omega⟩
 obtain⟨j,hj,rfl,rfl,hno⟩:=hrel;have Hno:=Ya hno;clear hno;by_cases hlt:j<m
 ·obtain⟨hd_j,i0_j,i1_j⟩:=LTl j m;obtain⟨x,hx⟩:=geX (l:=ord) (i:=j) (by rw[Hm.o];exact hlt);obtain⟨g,p,c,hv,_,_,cx⟩:=Zyq (by have:=H.o.nats;rwa [← Hm.o]at this) hx;simp only[Yg,Zlc]at hv;obtain⟨rfl,-,rfl⟩:=hv;have Hx:=Ya hx;clear hx;by_cases e:x=i
  ·have e1:((x:Int)==(i:Int))=true:=by simp[e]
   have HR:=Ya (show ord.contains i=true by rw[Zin,← e];exact Zy Hx.o);clear e;go_wp2_with fail;go_ret;exact⟨by rw[HR.o];rfl,Yn _⟩
  have e1:((x:Int)==(i:Int))=false:=by simp;omega
  have He:=Ya e;clear e;go_wp2_with fail;go_roundw;case rel=>exact⟨j+1,by omega,by go_num,by trivial,fun q hq=>by
   by_cases e:q=j
   ·rw[e,Hx.o];exact fun h=>He.o (Zlj h)
   exact Hno.o q (by omega)⟩
  case measure=>(simp[intOf];omega)
 have hd_j:=GEl j m;have HR:=Ya (show ord.contains i=false by
  cases hc:ord.contains i with
  | false=>rfl
  | true =>
   rw[Zin]at hc;obtain⟨q,hq,hqe⟩:=Zj5.1 hc;exact absurd (by rw[Zz hq,hqe]) (Hno.o q (by rw[Hm.o]at hq;omega)))
 go_wp2_with fail;go_ret;exact⟨by rw[HR.o];rfl,Yn _⟩
theorem Tl{ops:Array Oper}{op:Oper}{a:Act}{w:World}{K:Act→World→Prop}{Q:Exit→Act→World→Prop}{F:Prop}{o:Opn}{c:Array Value}(hgd:op.guard=none)(x y:Operand)(ho:op.op=.store 55 x y)(hc:c.size=23)(hx:a.eval x=.pointer (some ⟨w.heap.size,0,none⟩))(hy:a.eval y=opV o)(hnv:o.nv.oneCell'=true)
 (h:K (a.put op.dst undef) (w.alloc (opO o))):if Region.wanted op (yielded ops a.tmps)=true then op.wp Tryz.prog a (w.alloc (.cells c 55)) K Q else F:=by
 rw[Zlm (by simp[Region.wanted,hgd])];unfold Oper.wp execOp;rw[Ty]at hy;have hrun:=run_storeAt_new (P:=Tryz.prog) w 55 c (opC o).toArray (by rw[Jx];rfl) hc (Tx ⟨o,hnv⟩);simp only[ho,hx,hy,Zk1,hrun,Zkw,Zk2];exact h
theorem Nj(os:List Opn)(ord:List Nat)(i:Nat):Qm os ord i=(List.range os.length).any fun j=>!((ord++[i]).contains j)&&(match os[j]?,os[i]? with|some a,some b=>Ba a b|_,_=>false):=by
 unfold Qm;congr 1;funext j;rw[show(ord++[i]).contains j=(ord.contains j||j==i) by rw[Zkj];simp[Zin]];rw[show(j !=i) = !(j==i) from rfl];cases ord.contains j<;>cases (j==i)<;>simp<;>rfl
theorem Zv7{os:List Opn}{ord:List Nat}{i j:Nat}{a b:Opn}(ha:os[j]?=some a)(hb:os[i]?=some b)(hc:(ord++[i]).contains j=false)(hp:Ba a b=true):Qm os ord i=true:=by
 rw[Nj,Zkr];exact⟨j,Zkf.2 (Zr.1 ha).1,by rw[ha,hb,hc];simp[hp]⟩
theorem Zrd{os:List Opn}{ord:List Nat}{i:Nat}{b:Opn}(hb:os[i]?=some b)(h:∀ j,j<os.length→¬ ((ord++[i]).contains j=false∧∃ a,os[j]?=some a∧Ba a b=true)):Qm os ord i=false:=by
 cases he:Qm os ord i with
 | false=>rfl
 | true =>
  rw[Nj,Zkr]at he;obtain⟨j,hj,hp⟩:=he;rw[Zl7,Zkm]at hp;cases ha:os[j]? with
  | none=>rw[ha]at hp;simp at hp
  | some a =>
   rw[ha,hb]at hp;exact absurd ⟨hp.1,a,ha,hp.2⟩ (h j (Zkf.1 hj))
theorem Zt2{S:Nat→Prop}(sb base:Nat)(cl cp:Int)(vo:Value)(budget used:Int)(vl:Value)(os:List Opn)(ord:List Nat)(i:Nat)(w:World)(h:El w sb base cl cp vo budget used vl (ord++[i]))(ho:Vy w S vo os)(hc:Vc cl cp=0)(hf:∀ o∈os,-9223372036854775808≤o.res.tick)(h4:os.length≤4096)(hl:(ord++[i]).length≤4096)(hm:∀ k∈ord++[i],k<os.length) :
 Calls Tryz.prog 98 #[.pointer (some ⟨sb,0,none⟩)] w fun e w'=>e=.returned (.bool (!Qm os ord i&&Fi cl cp os (ord++[i])))∧Ext w w':=by
 obtain⟨A,C,rfl⟩:=ho.shape;obtain⟨n,hn⟩:=gnX (os.length);obtain⟨A2,C2,rfl,hlC,hC2⟩:=h.row.shape;obtain⟨m,hmm⟩:=gnX (ord.length);have hin:i<n:=by rw[← hn];exact hm i (by simp)
 obtain⟨b,hb⟩:=geX (l:=os) (i:=i) (by omega);obtain⟨g,p,c,hv,hc1,hc2,_,hA,hN⟩:=ho.get hb;simp only[Yg]at hv;obtain⟨rfl,-,rfl⟩:=hv;have hone:b.nv.oneCell'=true:=by obtain⟨nA,nC,hnv⟩:=hN.shape;rw[hnv];rfl
 have hoi:(ord++[i])[m]?=some i:=by rw[← hmm];simp
 obtain⟨g2,p2,c2,hv2,_,_,ci⟩:=Zyq h.nats hoi;simp only[Yg]at hv2;obtain⟨rfl,-,rfl⟩:=hv2;obtain⟨M,hM1⟩:=gnX (m+1);have hm1:(ord++[i]).length=M:=by rw[Zs,hmm];exact hM1
 have Ho:=Ya ho;have H:=Ya h;rw[hm1]at H hl hlC;rw[hn]at Ho H h4 hc1;have Hn:=Ya hn;have Hb:=Ya hb;have Hhc:=Ya hc;have Hf:=Ya hf;have HM:=Ya hm;have Hmm:=Ya hm1;have HA:=Ya hA;unfold maxLen at hC2 hc2;have s1:=H.o.c 2 rfl;have s5:=H.o.c 5 rfl;have r1:IntKind.i64.wrap ((M:Int)-1)=(m:Int):=by rw[Yr _ (by omega)];omega
 have j0:(0:Int)≤(m:Int):=by omega
 have j1:(m:Int)<(M:Int):=by omega
 have j2:(0:Int)≤(i:Int):=by omega
 have j3:(i:Int)<(n:Int):=by omega
 clear h ho hn hb hc hf hm hm1 hA hN hmm hoi;go_enter Tryz.func98,Tryz.ntmps98;go_upto_region 1 with fail;refine Zli (S:=fun w'=>w'.cell? ⟨sb,2,none⟩=some (.slice (some ⟨g,p,none⟩) n C)∧w'.cell? ⟨sb,5,none⟩=some (.slice (some ⟨g2,p2,none⟩) M C2)∧w'.cell? ⟨g2,p2+m,none⟩=some (.int .i64 (i:Int))∧w'.rangeAt g (p+i*23) (opC b)) (by kernel_rfl) ⟨s1,s5,ci,HA.o.range⟩ (fun hHeld=>?_);have Hd:=Ya (H.o.ext (Yn w).drew);have Od:=Ya (Ho.o.ext (Yn w).drew);have Xd:=Ya (Yn w).drew;have Ad:=Ya (HA.o.ext (Yn w).drew);obtain⟨Wd,hWd⟩:=gnX (w.drew);rw[hWd]at Hd Od Xd Ad hHeld;rw[hWd];clear hWd H Ho HA s1 s5 ci;refine Xz [0,1,2,3,4,5,6,7,8,9,10,11,12,13,14,15,16,17] 2 (by rfl) (by kernel_rfl) (by kernel_rfl) (fun _ _ d _ _ h=>by cases d<;>exact h) hHeld ?_;simp only[Z1,Z2,Z3,Zw,Zx];repeat(first|((with_reducible refine Ti (by kernel_rfl) rfl (fun _ h=>h.2.2.2) ?_);(try simp only[Act.put,Zv,Zu,Zt]))|(refine Xw (v:=?_) (by kernel_rfl) ?_ ?_;rotate_left;(focus((intro wT hST;obtain⟨h1,h5,hn,hl⟩:=hST;go_simp);(first|done|(with_reducible rfl))));(try simp only[Act.put,Zv,Zu,Zt])))
 refine Xv ?_;have hS:∀ w',Ext Wd w'→(w'.cell? ⟨sb,2,none⟩=some (.slice (some ⟨g,p,none⟩) n C)∧w'.cell? ⟨sb,5,none⟩=some (.slice (some ⟨g2,p2,none⟩) M C2)∧w'.cell? ⟨g2,p2+m,none⟩=some (.int .i64 (i:Int))∧w'.rangeAt g (p+i*23) (opC b)):=fun w' x=>⟨(Hd.o.ext x).c 2 rfl,(Hd.o.ext x).c 5 rfl,(x.cell (lt_of_cell hHeld.2.2.1)).trans hHeld.2.2.1,(Ad.o.ext x).range⟩
 clear hHeld;refine Zlp (rs:=[18]) (by kernel_rfl) (by simp) ?_;refine Yt (o:=_) rfl (fun K hK=>?_) Ys;go_simp;refine hK.out _ _ (hS _ ((Yn _).alloc _)) (fun hHeld=>?_);clear hHeld hK K;try simp only[Act.put,Zv,Zu,Zt]
 refine Zlp (rs:=[19]) (by kernel_rfl) (by simp) ?_;refine Yt (o:=_) rfl (fun K hK=>?_) Ys;refine Tl (o:=b) rfl _ _ rfl rfl rfl rfl hone ?_;refine hK.out _ _ (hS _ ((Yn _).alloc _)) (fun hHeld=>?_);clear hHeld hK K hS;refine Zlb (by kernel_rfl) ?_ _;have hNb:=Un Wd b;have xb:=(Yn Wd).alloc (opO b);obtain⟨W1,hW1⟩:=gnX (Wd.alloc (opO b));obtain⟨lb,hlb⟩:=gnX (Wd.heap.size);rw[hW1,hlb]at hNb;rw[hW1]at xb;rw[hW1,hlb];have LB:=Ya hNb;have H1:=Ya (Hd.o.ext xb);have O1:=Ya (Od.o.ext xb);have X1:=Ya (Xd.o.trans xb);have s1:=H1.o.c 2 rfl;clear hW1 hlb hNb xb Hd Od Xd Ad hone;go_wp2_with fail;go_loopw [30] (fun o wr=>∃ j:Nat,j≤n∧o=.int .i64 (j:Int)∧Ext W1 wr∧∀ q,q<j→¬ ((ord++[i]).contains q=false∧∃ a,os[q]?=some a∧Ba a b=true)) (fun o _=>n-(intOf o).toNat);case atStart=>exact⟨0,by omega,rfl,Yn _,fun q hq=>by omega⟩
 obtain⟨j,hj,rfl,hx,hno⟩:=hrel;rename World=>wr
 have Hx:=Ya hx;have Hno:=Ya hno;have HR:=Ya (H1.o.ext hx);have OR_:=Ya (O1.o.ext hx);have LR:=Ya (LB.o.ext hx);clear hx hno;by_cases hlt:j<n
 ·obtain⟨hd_j,i0_j,i1_j⟩:=LTl j n;obtain⟨a,ha⟩:=geX (l:=os) (i:=j) (by rw[Hn.o];exact hlt);obtain⟨g3,p3,c3,hv3,_,_,_,hA,_⟩:=(show Vy wr S _ os by have:=OR_.o;rwa [← Hn.o]at this).get ha;simp only[Yg,Yf,Zlh,Zlc,Zky]at hv3;obtain⟨⟨rfl,rfl⟩,-⟩:=hv3;have HA:=Ya hA;have Ha:=Ya ha;have l1:=lat (HR.o.c 2 rfl);clear hA ha;have LA:∀ w',(∃ z:Wi,w'=later wr z.n z.os)→Kc w' g (p+j*23) a:=fun w' ⟨z,e⟩=>by rw[e];exact HA.o.ext (⟨_,_,rfl⟩)
  have LL:∀ w',(∃ z:Wi,w'=later wr z.n z.os)→Kc w' lb 0 b:=fun w' ⟨z,e⟩=>by rw[e];exact LR.o.ext (⟨_,_,rfl⟩)
  go_upto_region 5 with fail;cases hcn:(ord++[i]).contains j with
  | true =>
   have hun:=Yd;refine Y0 (by kernel_rfl) (by kernel_rfl) ?_;repeat(first|((with_reducible refine Gu ?_ ?_ LA ?_);(focus(go_simp;done));rfl;(try simp only[Act.put,Zv,Zu,Zt]))|((with_reducible refine Gu ?_ ?_ LL ?_);(focus(go_simp;done));rfl;(try simp only[Act.put,Zv,Zu,Zt]))|((with_reducible refine Yw ?_);intro K hK;go_simp;first|((with_reducible refine hK _ ?_);clear hK K)|(apply Exists.intro;refine⟨fun _=>?_,hK _ ?_⟩;(first|(go_at_call 20;exact Y8 (Lc _ _ _))|(go_at_call 97;exact Y8 ((Fy sb base cl cp _ budget used _ _ j _ (HR.o.ext (⟨_,_,rfl⟩))).mono fun e w' h=>by rw[hcn]at h;exact h)));clear hK K)))
   (with_reducible refine Yv ?_)
   intro w9 hy9;clear hun LA LL l1;try simp only[Ye]
   go_wp2_with fail;go_roundw;case rel=>exact⟨j+1,by omega,by go_num,Hx.o.trans hy9,fun q hq=>by
    by_cases e:q=j
    ·rw[e];rintro⟨h,_⟩;rw[hcn]at h;cases h
    exact Hno.o q (by omega)⟩
   case measure=>(simp[intOf];omega)
  | false =>
   cases hp:Ba a b with
   | true =>
    have HE:=Ya (Zv7 Ha.o Hb.o hcn hp);have hun:=Yd;refine Y0 (by kernel_rfl) (by kernel_rfl) ?_;repeat(first|((with_reducible refine Gu ?_ ?_ LA ?_);(focus(go_simp;done));rfl;(try simp only[Act.put,Zv,Zu,Zt]))|((with_reducible refine Gu ?_ ?_ LL ?_);(focus(go_simp;done));rfl;(try simp only[Act.put,Zv,Zu,Zt]))|((with_reducible refine Yw ?_);intro K hK;go_simp;first|((with_reducible refine hK _ ?_);clear hK K)|(apply Exists.intro;refine⟨fun _=>?_,hK _ ?_⟩;(first|(go_at_call 20;exact Y8 (Lc _ _ _))|(go_at_call 97;exact Y8 ((Fy sb base cl cp _ budget used _ _ j _ (HR.o.ext (⟨_,_,rfl⟩))).mono fun e w' h=>by rw[hcn]at h;exact h)));clear hK K)))
    (with_reducible refine Yv ?_)
    intro w9 hy9;clear hun LA LL l1;try simp only[Ye]
    go_wp2_with fail;go_ret;exact⟨by rw[HE.o];rfl,(X1.o.trans Hx.o).trans hy9⟩
   | false =>
    have hun:=Yd;refine Y0 (by kernel_rfl) (by kernel_rfl) ?_;repeat(first|((with_reducible refine Gu ?_ ?_ LA ?_);(focus(go_simp;done));rfl;(try simp only[Act.put,Zv,Zu,Zt]))|((with_reducible refine Gu ?_ ?_ LL ?_);(focus(go_simp;done));rfl;(try simp only[Act.put,Zv,Zu,Zt]))|((with_reducible refine Yw ?_);intro K hK;go_simp;first|((with_reducible refine hK _ ?_);clear hK K)|(apply Exists.intro;refine⟨fun _=>?_,hK _ ?_⟩;(first|(go_at_call 20;exact Y8 (Lc _ _ _))|(go_at_call 97;exact Y8 ((Fy sb base cl cp _ budget used _ _ j _ (HR.o.ext (⟨_,_,rfl⟩))).mono fun e w' h=>by rw[hcn]at h;exact h)));clear hK K)))
    (with_reducible refine Yv ?_)
    intro w9 hy9;clear hun LA LL l1;try simp only[Ye]
    go_wp2_with fail;go_roundw;case rel=>exact⟨j+1,by omega,by go_num,Hx.o.trans hy9,fun q hq=>by
     by_cases e:q=j
     ·rw[e];rintro⟨_,a',ha',hp'⟩;rw[Ha.o]at ha';rw[← Zlj ha',hp]at hp';cases hp'
     exact Hno.o q (by omega)⟩
    case measure=>(simp[intOf];omega)
 have hd_j:=GEl j n;have HE:=Ya (Zrd (ord:=ord) Hb.o (fun q hq=>Hno.o q (by rw[Hn.o]at hq;omega)));have XR:=Ya (X1.o.trans Hx.o);go_upto_region 8 with fail;refine Zli (S:=fun w'=>w'.cell? ⟨sb,0,none⟩=some (.int .i64 cl)∧w'.cell? ⟨sb,1,none⟩=some (.int .i64 cp)∧w'.cell? ⟨sb,2,none⟩=some (.slice (some ⟨g,p,none⟩) n C)∧w'.cell? ⟨sb,5,none⟩=some (.slice (some ⟨g2,p2,none⟩) M C2)) (by kernel_rfl) ⟨HR.o.c 0 rfl,HR.o.c 1 rfl,HR.o.c 2 rfl,HR.o.c 5 rfl⟩ (fun hHeld=>?_);have Hd:=Ya (HR.o.ext (Yn wr).drew);have Od:=Ya (OR_.o.ext (Yn wr).drew);have Xd:=Ya XR.o.drew;obtain⟨Wd,hWd⟩:=gnX (wr.drew);rw[hWd]at Hd Od Xd hHeld;rw[hWd];clear hWd HR OR_ XR LR;refine Xz [0,1,2,3,4,5,6,7,8,9,10,11] 6 (by rfl) (by kernel_rfl) (by kernel_rfl) (fun _ _ d _ _ h=>by cases d<;>exact h) hHeld ?_;simp only[Z1,Z2,Z3,Zw,Zx];repeat(refine Xw (v:=?_) (by kernel_rfl) ?_ ?_;rotate_left;(focus((intro wT hST;obtain⟨h1,h5,hn,hl⟩:=hST;go_simp);(first|done|(with_reducible rfl))));(try simp only[Act.put,Zv,Zu,Zt]))
 refine Xv ?_;clear hHeld;refine Zlp (rs:=[12]) (by kernel_rfl) (by simp) ?_;refine Yt (o:=_) rfl (fun K hK=>?_) Ys;go_simp;refine(Znd cl cp _ _ os (ord++[i]) _ Hhc.o Od.o Hf.o Hd.o.nats (by rw[Hmm.o];exact hl) (fun k hk=>⟨os[k]'(HM.o k hk),Zz _⟩)).mono ?_;rintro e w3 ⟨hx3,hr⟩;have H3:=Ya (Hd.o.ext hx3);have X3:=Ya (Xd.o.trans hx3);have hS3:(fun w':World=>w'.cell? ⟨sb,0,none⟩=some (.int .i64 cl)∧w'.cell? ⟨sb,1,none⟩=some (.int .i64 cp)∧w'.cell? ⟨sb,2,none⟩=some (.slice (some ⟨g,p,none⟩) n C)∧w'.cell? ⟨sb,5,none⟩=some (.slice (some ⟨g2,p2,none⟩) M C2)) w3:=⟨H3.o.c 0 rfl,H3.o.c 1 rfl,H3.o.c 2 rfl,H3.o.c 5 rfl⟩;clear hx3 Hd Od Xd H3;rcases hr with⟨hr,rfl⟩ | ⟨k,q,c,hr,_,hc0,rfl⟩
 ·have HX:=Ya (show Fi cl cp os (ord++[i])=true by unfold Fi;rw[hr];rfl);clear hr;refine hK.out _ _ hS3 (fun hHeld=>?_);clear hK K;try simp only[Act.put,Zv,Zu,Zt]
  refine Xz [13,14,15,16,17] 0 (by rfl) (by kernel_rfl) (by kernel_rfl) (fun _ _ d _ _ h=>by cases d<;>exact h) hHeld ?_;simp only[Z1,Z2,Z3,Zw,Zx];repeat(refine Xw (v:=?_) (by kernel_rfl) ?_ ?_;rotate_left;(focus((intro wT hST;obtain⟨h1,h5,hn,hl⟩:=hST;go_simp);(first|done|(with_reducible rfl))));(try simp only[Act.put,Zv,Zu,Zt]))
  refine Xv ?_;clear hHeld;refine Zlb (by kernel_rfl) ?_ _;go_wp2_with fail;go_ret;exact⟨by rw[HE.o,HX.o];rfl,X3.o⟩
 have HX:=Ya (show Fi cl cp os (ord++[i])=false by unfold Fi;rw[hr];rfl);have hcz:(c==0)=false:=by simpa using hc0
 clear hr hc0;refine hK.out _ _ hS3 (fun hHeld=>?_);clear hK K;try simp only[Act.put,Zv,Zu,Zt]
 refine Xz [13,14,15,16,17] 0 (by rfl) (by kernel_rfl) (by kernel_rfl) (fun _ _ d _ _ h=>by cases d<;>exact h) hHeld ?_;simp only[Z1,Z2,Z3,Zw,Zx];repeat(refine Xw (v:=?_) (by kernel_rfl) ?_ ?_;rotate_left;(focus((intro wT hST;obtain⟨h1,h5,hn,hl⟩:=hST;go_simp);(first|done|(with_reducible rfl))));(try simp only[Act.put,Zv,Zu,Zt]))
 refine Xv ?_;clear hHeld;refine Zlb (by kernel_rfl) ?_ _;go_wp2_with fail;go_ret;exact⟨by rw[HE.o,HX.o];rfl,X3.o⟩
section
section
variable {P:Program} {md:Region.Mode} {ops:Array Oper} {Q:Exit→Act→World→Prop} {S:World→Prop}
def Tc(md:Region.Mode)(ops:Array Oper)(z j:Nat):Bool:=((ops[z]?).map fun o=>o.after.any fun e=>Region.binds md e&&e.on==j).getD false
def Zuh(md:Region.Mode)(ops:Array Oper)(z:Nat):Bool :=
 (List.range ops.size).all fun j=>(j==z||Tc md ops z j||(List.range ops.size).any fun k=>!(k==z)&&Tc md ops z k&&Tc md ops k j)&&((ops[j]?).map fun o=>o.after.all fun e=>!Region.binds md e||decide (e.on<j)).getD false
theorem Bw{z j:Nat}{oz:Oper}(h:Tc md ops z j=true)(hoz:ops[z]?=some oz):∃ e∈oz.after,Region.binds md e=true∧e.on=j:=by
 unfold Tc at h;rw[hoz]at h;simp only[Zjp,Zjh,Zia]at h;obtain⟨e,he,h⟩:=h;simp only[Zl7,Zhm]at h;exact⟨e,he,h⟩
def Fv(md:Region.Mode)(ops:Array Oper)(listed:Array Bool):Prop:=∀ k,listed.getD k false=true→∀ o,ops[k]?=some o→∀ e∈o.after,Region.binds md e=true→listed.getD e.on false=true
theorem Fv.set{listed:Array Bool}{i:Nat}(h:Fv md ops listed)(hs:listed.size=ops.size)(hi:i∈Region.ready md ops listed):Fv md ops (listed.setIfInBounds i true):=by
 intro k hk o ho e he hb;obtain⟨h1,h2,o',h3,h4⟩:=mem_ready.1 hi;rw[Qc];split
 ·rfl
 rw[Qc]at hk;by_cases hki:i=k
 ·subst hki;rw[ho]at h3;cases h3
  exact h4 e he hb
 rw[Zlq (fun h=>hki h.1)]at hk;exact h k hk o ho e he hb
theorem Zzi{z:Nat}(hz:z<ops.size)(hB:Zuh md ops z=true):∀ (fuel:Nat) (listed:Array Bool) (a:Act) (w:World),listed.size=ops.size→listed.getD z true=false→Fv md ops listed →
 wpAnyH P md ops (Rr P ops Q z) S fuel (listed.setIfInBounds z true) a w→wpAny P md ops Q (fuel+1) listed a w:=by
 have hB':=hB;simp only[Zuh,Zik,Zkf,Zl7,Zjo,Zhm,Zkr,Zkm]at hB';have hbef:∀ j,j<ops.size→∀ o,ops[j]?=some o→∀ e∈o.after,Region.binds md e=true→e.on<j:=fun j hj o ho e he hb=>by
  have h:=(hB' j hj).2;rw[ho]at h;simp only[Zjp,Zjh,Zk0,Zjo,Zkm,Zl5]at h;rcases h e he with h|h
  ·rw[hb]at h;simp at h
  exact h
 have F1:∀ listed:Array Bool,listed.size=ops.size→listed.getD z true=false→Region.ready md ops listed≠[]:=fun listed hs hzl h0=>by
  have hj:∀ j,j<ops.size→listed.getD j true=true:=fun j=>by
   induction j using Nat.strongRecOn with
   | _ j ih =>
    intro hj;cases hl:listed.getD j true with
    | true=>rfl
    | false =>
     exfalso;have:j∈Region.ready md ops listed:=mem_ready.2 ⟨hj,hl,ops[j],Zlk hj,fun e he hb=>by
      have h1:=hbef j hj _ (Zlk hj) e he hb;have h2:=ih e.on h1 (by omega);simp only[Zlg]at h2⊢;rw[Zlk (by omega)]at h2⊢;exact h2⟩
     rw[h0]at this;simp at this
  rw[hj z hz]at hzl;simp at hzl
 have F2:∀ (listed:Array Bool) i,listed.size=ops.size→i≠z→i∈Region.ready md ops listed→i∈Region.ready md ops (listed.setIfInBounds z true):=fun listed i hs hne hi=>by
  obtain⟨h1,h2,o,h3,h4⟩:=mem_ready.1 hi;refine mem_ready.2 ⟨h1,by rw[Qc,Zlq (fun h=>hne h.1.symm)];exact h2,o,h3,fun e he hb=>?_⟩;rw[Qc];split
  ·rfl
  exact h4 e he hb
 have F3:∀ listed:Array Bool,listed.size=ops.size→Fv md ops listed→z∈Region.ready md ops listed→Region.ready md ops (listed.setIfInBounds z true)=[]:=fun listed hs hcl hi=>by
  obtain⟨h1,h2,o,h3,h4⟩:=mem_ready.1 hi;rw[Zk3];intro j hj;obtain⟨j1,j2,_⟩:=mem_ready.1 hj;rw[Qc]at j2;by_cases hjz:z=j
  ·rw[Zlm ⟨hjz,by omega⟩]at j2;simp at j2
  rw[Zlq (fun h=>hjz h.1)]at j2;have h5:listed.getD j false=true:=by
   rcases(hB' j j1).1 with(h|h) | ⟨k,hk,⟨hkz,h⟩,h'⟩
   ·exact absurd h.symm hjz
   ·obtain⟨e,he,hb,hon⟩:=Bw h h3;rw[← hon];exact h4 e he hb
   obtain⟨e,he,hb,hon⟩:=Bw h h3;have h6:=h4 e he hb;rw[hon]at h6;obtain⟨e',he',hb',hon'⟩:=Bw h' (Zlk hk);rw[← hon'];exact hcl k h6 _ (Zlk hk) e' he' hb'
  simp only[Zlg]at h5 j2;rw[Zlk (by omega)]at h5 j2;simp at h5 j2;rw[h5]at j2;simp at j2
 intro fuel
 induction fuel with
 | zero =>
  rintro listed a w hs hzl hcl ⟨hr,hq⟩;refine⟨fun h=>absurd h (F1 listed hs hzl),fun i hi=>?_⟩;by_cases hiz:i=z
  ·subst hiz;exact Zho (fun a' w' h=>⟨F3 listed hs hcl hi,h⟩) hq
  have:=F2 listed i hs hiz hi;rw[hr]at this;simp at this
 | succ fuel ih =>
  rintro listed a w hs hzl hcl ⟨hr,hq⟩;refine⟨fun h=>absurd h (F1 listed hs hzl),fun i hi=>?_⟩;by_cases hiz:i=z
  ·subst hiz;have h0:=F3 listed hs hcl hi;exact Zho (fun a' w' h=>⟨fun _=>h,by rw[h0];simp⟩) (hr h0)
  have h1:=hq i (F2 listed i hs hiz hi);refine Zho (fun a' w' h=>?_) (Zzh h1);refine ih (listed.setIfInBounds i true) a' w' (by simp[hs]) (by rw[Qc,Zlq (fun h=>hiz h.1)];exact hzl) (hcl.set hs hi) ?_;rw[Array.setIfInBounds_comm true true hiz];exact h.2
theorem Ud{id:Nat}{a:Act}{w:World}(z n:Nat)(hn:ops.size=n+1)(hz:z<ops.size)(hB:Zuh .any ops z=true)(hm:P.follows .mixedOrders=true)(hS:S w.drew)
 (h:S w.drew→wpAnyH P .any ops (Rr P ops Q z) S n ((Array.replicate ops.size false).setIfInBounds z true) a w.drew):(Code.region id ops true).wp P Q a w:=by
 refine wp_region_any hm ?_;rw[hn];have h2:=h hS;rw[hn]at h2;have hz':z<n+1:=hn▸hz;refine Zzi hz hB n _ a _ (by simp[hn]) (by simp[Zlg,hz']) (fun k hk=>?_) h2;simp only[Zlg,Array.getElem?_replicate]at hk;by_cases hkn:k<n+1<;>simp[hkn]at hk
end
end
end Go.Proofs.YtnbclgbicnpmnaaGreat
