/- Lemmas of this claim: Early, Srch, Last2. Conditions: as named. -/
import Derived.Test.YtnbclgbicnpmnaaGreatA08
import Derived.Test.YtnbclgbicnpmnaaGreatA22
namespace Go.Proofs.YtnbclgbicnpmnaaGreat
open Go.RowKit Go.Sort
set_option maxHeartbeats 0
set_option maxRecDepth 100000
set_option linter.all false
def Kj(os:List Opn)(ord:List Nat)(i:Nat):Bool:=(List.range os.length).any fun j=>!(ord.contains j)&&j !=i&&(match os[j]?,os[i]? with|some a,some b=>Pv a b|_,_=>false)
theorem Zyh{os:List Opn}{ord:List Nat}{i j:Nat}{a b:Opn}(ha:os[j]?=some a)(hb:os[i]?=some b)(hj:ord.contains j=false)(hne:j≠i)(hp:Pv a b=true):Kj os ord i=true:=by
 unfold Kj;rw[Zkt];refine⟨j,Zkh.2 (Zr.1 ha).1,?_⟩;rw[ha,hb];have h1:(j !=i)=true:=by simpa using hne
 simp only[hj,h1,hp,Bool.not_false,Bool.and_self]
theorem Tl{os:List Opn}{ord:List Nat}{i:Nat}(h:∀ j,j<os.length→¬ (ord.contains j=false∧j≠i∧∃ a b,os[j]?=some a∧os[i]?=some b∧Pv a b=true)):Kj os ord i=false:=by
 cases he:Kj os ord i with
 | false=>rfl
 | true =>
  unfold Kj at he;rw[Zkt]at he;obtain⟨j,hj,hp⟩:=he;simp only[Zlp,Zkz,bne_iff_ne,ne_eq]at hp;cases ha:os[j]? with
  | none=>rw[ha]at hp;simp at hp
  | some a =>
   cases hb:os[i]? with
   | none=>rw[ha,hb]at hp;simp at hp
   | some b =>
    rw[ha,hb]at hp;exact absurd ⟨hp.1.1,hp.1.2,a,b,ha,hb,hp.2⟩ (h j (Zkh.1 hj))
theorem Sj{ops:Array Oper}{S:World→Prop}{op:Oper}{a:Act}(hw:Region.wanted op (yielded ops a.tmps)=true){x:Operand}(ho:op.op=.load 55 x)(b p:Nat)(hx:a.eval x=.pointer (some ⟨b,p,none⟩))(o:Opn)(hS:∀ w,S w→w.rangeAt b p (opC o)):YieldsIf Tryz.prog ops S op (opV o) a:=by
 have hu:=Zz2;rw[Zlk]at hu;obtain⟨d,hu,hd⟩:=hu;exact yieldsIf_load_mid hw _ x ho b p hx (opC o) d hS hu hd (by rw[Fi];rfl)
def Zng(w:World)(ib n:Nat)(ord:List Nat):Prop:=ib<w.heap.size∧∀ j,j<n→w.cell? ⟨ib,j,none⟩=some (.bool (ord.contains j))
theorem Zng.ext{w w':World}{ib n:Nat}{ord:List Nat}(h:Zng w ib n ord)(x:Ext w w'):Zng w' ib n ord:=⟨Zm1 h.1 x.size,fun j hj=>(x.cell (p:=⟨ib,j,none⟩) h.1).trans (h.2 j hj)⟩
theorem Zvu{S:Nat→Prop}(sb ib:Nat)(vo:Value)(os:List Opn)(ord:List Nat)(i ic:Nat)(w:World)(c2:w.cell? ⟨sb,2,none⟩=some vo)(c5:w.cell? ⟨sb,5,none⟩=some (.slice (some ⟨ib,0,none⟩) os.length ic))
 (ho:V5 w S vo os) (hin:Zng w ib os.length ord) (hi:i<os.length) (hlen:os.length≤4096) (_hic:os.length≤ic) (_hic2:ic≤maxLen) :
 Calls Tryz.prog 95 #[.pointer (some ⟨sb,0,none⟩),.int .i64 i] w fun e w'=>e=.returned (.bool (Kj os ord i))∧Ext w w':=by
 obtain⟨A,C,rfl⟩:=ho.shape;have hsb:=lt_of_cell c2;obtain⟨ob,hob⟩:∃ o,os[i]?=some o:=⟨os[i],Zz hi⟩;obtain⟨n,hnn⟩:=gnX (os.length);have Hnn:=Y4 hnn;have Ho:=Y4 ho;have Hin:=Y4 hin;obtain⟨g,p,c,hv,hc1,hc2,_,_,_⟩:=ho.get hob;simp only[Ye]at hv;obtain⟨rfl,-,rfl⟩:=hv;have Hob:=Y4 hob;rw[hnn]at c2 c5 hi hlen _hic hc1;clear hnn ho hin hob;go_enter Tryz.func95,Tryz.ntmps95;go_wp2_with fail;go_loopw [11] (fun o wr=>∃ j:Nat,j≤n∧o=.int .i64 (j:Int)∧Ext w wr∧∀ k,k<j→¬ (ord.contains k=false∧k≠i∧∃ a b,os[k]?=some a∧os[i]?=some b∧Pv a b=true)) (fun o _=>n-(intOf o).toNat);case atStart=>exact⟨0,by omega,rfl,Yl _,fun k hk=>by omega⟩
 obtain⟨j,hj,rfl,hx,hno⟩:=hrel;have Hno:=Y4 hno;have Hx:=Y4 hx;clear hno hx;by_cases hjn:j<n
 ·have hd:decide ((j:Int)<(n:Int))=true:=by simp;omega
  obtain⟨oa,hoa⟩:=geX (l:=os) (i:=j) (by rw[Hnn.o];exact hjn);have k2:=(Hx.o.cell (p:=⟨sb,2,none⟩) hsb).trans c2;have k5:=(Hx.o.cell (p:=⟨sb,5,none⟩) hsb).trans c5;have hinw:=Hin.o.ext Hx.o;have kin:=hinw.2 j (by rw[Hnn.o];exact hjn);have q1:(0:Int)≤(j:Int):=by omega
  have q2:(j:Int)<(n:Int):=by omega
  have Hoa:=Y4 hoa;clear hoa;cases hc:ord.contains j with
  | true =>
   rw[hc]at kin;go_wp2_with fail;go_region;go_wp2_with fail;go_roundw;case rel=>exact⟨j+1,by omega,by go_num,Hx.o.drew,fun k hk=>by
    by_cases e:k=j
    ·subst e;rw[hc];simp
    exact Hno.o k (by omega)⟩
   case measure=>simp[intOf];omega
  | false =>
   rw[hc]at kin;by_cases hji:j=i
   ·have hne:((j:Int)!=(i:Int))=false:=by simp;omega
    have Hji:=Y4 hji;clear hji;go_wp2_with fail;go_region;go_wp2_with fail;go_roundw;case rel=>exact⟨j+1,by omega,by go_num,Hx.o.drew,fun k hk=>by
     by_cases e:k=j
     ·subst e;exact fun h=>h.2.1 Hji.o
     exact Hno.o k (by omega)⟩
    case measure=>simp[intOf];omega
   have hne:((j:Int)!=(i:Int))=true:=by simp;omega
   obtain⟨g',p',c',hv',_,_,_,hA,_⟩:=(Ho.o.ext Hx.o).get Hoa.o;obtain⟨g2,p2,c2',hv2,_,_,_,hB,_⟩:=(Ho.o.ext Hx.o).get Hob.o;simp only[Ye,Yd,Zly,Zlc,Zls]at hv' hv2;obtain⟨⟨rfl,rfl⟩,-⟩:=hv';obtain⟨⟨rfl,rfl⟩,-⟩:=hv2;have kA:=hA.range;have kB:=hB.range;have hgl:=hA.1;have hsl:=Zm1 hsb Hx.o.size;have hil:=hinw.1;have q3:(0:Int)≤(i:Int):=by omega
   have q4:(i:Int)<(n:Int):=by omega
   clear hA hB hinw;go_upto_region 4 with fail;refine Zlv (S:=fun w'=>w'.cell? ⟨sb,5,none⟩=some (.slice (some ⟨ib,0,none⟩) n ic)∧w'.cell? ⟨ib,j,none⟩=some (.bool false)∧w'.cell? ⟨sb,2,none⟩=some (.slice (some ⟨g,p,none⟩) n C)∧w'.rangeAt g (p+j*23) (opC oa)∧w'.rangeAt g (p+i*23) (opC ob)) (by kernel_rfl) ⟨k5,kin,k2,kA,kB⟩ (fun hHeld=>?_);refine Xv [0,1,2,3,4,5,6,7,8,9,10,11,12,13,14,15,16,17,18,19] 10 (by rfl) (by kernel_rfl) (by kernel_rfl) (fun _ _ d _ _ h=>by cases d<;>exact h) (by assumption) ?_;simp only[Z3,Z4,Z5,Zw,Zx];repeat(refine Xt (v:=?_) (by kernel_rfl) ?_ ?_;rotate_left;(focus((intro w hSw;(try dsimp only at hSw);go_simp);(first|done|(with_reducible rfl))));(try simp only[Act.put]);(try simp only[Zv]))
   refine Xq ?_;refine Zkv (i := 20) (oi := { dst := some 34, op := Op.load 55 (Operand.tmp 33), type := 55, pos := "history.go:129", after := #[{ on := 19, ground := Ground.data }, { on := 13, ground := Ground.guard }], guard := some (13, true) }) (v := opV oa) rfl (by kernel_rfl) (by kernel_rfl) (by kernel_rfl) (fun _ _ _ h => h) ?hy20 (by assumption) ?_;case hy20=>exact Sj (x:=Operand.tmp 33) (by kernel_rfl) rfl g (p+j * 23) (by simp [Act.eval];done) oa fun w h=>h.2.2.2.1
   (try simp only[Act.put]);(try simp only[Zv])
   refine Xv [21,22,23,24,25,26] 3 (by rfl) (by kernel_rfl) (by kernel_rfl) (fun _ _ d _ _ h=>by cases d<;>exact h) (by assumption) ?_;simp only[Z3,Z4,Z5,Zw,Zx];repeat(refine Xt (v:=?_) (by kernel_rfl) ?_ ?_;rotate_left;(focus((intro w hSw;(try dsimp only at hSw);go_simp);(first|done|(with_reducible rfl))));(try simp only[Act.put]);(try simp only[Zv]))
   refine Xq ?_;refine Zkv (i := 27) (oi := { dst := some 41, op := Op.load 55 (Operand.tmp 40), type := 55, pos := "history.go:129", after := #[{ on := 26, ground := Ground.data }, { on := 13, ground := Ground.guard }], guard := some (13, true) }) (v := opV ob) rfl (by kernel_rfl) (by kernel_rfl) (by kernel_rfl) (fun _ _ _ h => h) ?hy27 (by assumption) ?_;case hy27=>exact Sj (x:=Operand.tmp 40) (by kernel_rfl) rfl g (p+i * 23) (by simp [Act.eval];done) ob fun w h=>h.2.2.2.2
   (try simp only[Act.put]);(try simp only[Zv])
   refine Zm8 (rs:=[28]) (by kernel_rfl) (by simp) ?_;refine Yr (o:=_) rfl (fun K hK=>?_) Yq;go_simp;refine(Zzp oa ob _).mono ?_;rintro x w4 ⟨rfl,hx4⟩;replace hx4:Ext wr w4:=(Yl wr).drew.trans hx4;replace k2:=(hx4.cell (p:=⟨sb,2,none⟩) hsl).trans k2;replace k5:=(hx4.cell (p:=⟨sb,5,none⟩) hsl).trans k5;replace kin:=(hx4.cell (p:=⟨ib,j,none⟩) hil).trans kin;replace kA:w4.rangeAt g (p+j*23) (opC oa):=fun q v hv=>(hx4.cell (p:=⟨g,p+j*23+q,none⟩) hgl).trans (kA q v hv)
   replace kB:w4.rangeAt g (p+i*23) (opC ob):=fun q v hv=>(hx4.cell (p:=⟨g,p+i*23+q,none⟩) hgl).trans (kB q v hv)
   have HX4:=Y4 (Hx.o.trans hx4);clear hx4;(try go_wp2_with fail);refine hK.out _ _ ?_ (fun hHeld=>?_);(focus((try dsimp only);(first|done|go_keep)));clear hK K;try simp only[Act.put,Zv,Zu,Zt]
   refine Zkv (i:=29) (oi:=_) (v:=?_) rfl (by kernel_rfl) (by kernel_rfl) (by kernel_rfl) (fun _ _ _ h=>h) (Or.inl ⟨by rfl,?_⟩) (by assumption) ?_;rotate_left;(focus((intro w hSw;(try dsimp only at hSw);go_simp);(first|done|(with_reducible rfl))));(try simp only[Act.put]);(try simp only[Zv]);refine Zlh (by kernel_rfl) ?_ _;clear hHeld k2 k5 kin kA kB;have Hji:=Y4 hji;clear hji;cases hp:Pv oa ob with
   | true =>
    have HE:=Y4 (Zyh Hoa.o Hob.o hc Hji.o hp);go_wp2_with fail;go_ret;rw[HE.o];exact⟨rfl,HX4.o⟩
   | false =>
    go_wp2_with fail;go_roundw;case rel=>exact⟨j+1,by omega,by go_num,HX4.o,fun k hk=>by
     by_cases e:k=j
     ·subst e;rintro⟨_,_,a,b,ha,hb,hab⟩;rw[Hoa.o]at ha;rw[Hob.o]at hb;simp only[Yd]at ha hb;subst ha hb;rw[hp]at hab;simp at hab
     exact Hno.o k (by omega)⟩
    case measure=>simp[intOf];omega
 have hd:decide ((j:Int)<(n:Int))=false:=by simp;omega
 have HE:=Y4 (Tl (fun k hk=>Hno.o k (by rw[Hnn.o]at hk;omega)));go_wp2_with fail;go_ret;rw[HE.o];exact⟨rfl,Hx.o⟩
structure Sx where
 found:Bool
 broken:Bool
 left:Nat
 ord:List Nat
def Zvs(cl cp:Int)(os:List Opn)(ord:List Nat):Bool:=(Nf cl cp os ord ([],0,true)).isNone
def Gn(cl cp:Int)(os:List Opn)(rec:Nat→List Nat→Sx):List Nat→Nat→List Nat→Sx
 | [],left,ord=>⟨false,false,left,ord⟩
 | i::c,left,ord =>
  if ord.contains i then Gn cl cp os rec c left ord
  else if left=0 then⟨false,true,0,ord⟩
  else if Kj os ord i then Gn cl cp os rec c (left-1) ord
  else if Zvs cl cp os (ord++[i])then
   (if(rec (left-1) (ord++[i])).found||(rec (left-1) (ord++[i])).broken then rec (left-1) (ord++[i])else Gn cl cp os rec c (rec (left-1) (ord++[i])).left ord)
  else Gn cl cp os rec c (left-1) ord
def Ki(cl cp:Int)(os:List Opn):Nat→Nat→List Nat→Sx
 | 0,left,ord=>⟨true,false,left,ord⟩
 | d+1,left,ord=>Gn cl cp os (Ki cl cp os d) (List.range os.length) left ord
def Ve(cl cp:Int)(os:List Opn)(budget:Int):List Nat×Int×Int :=
 if(Qk cl cp os).2≠0 then([],0,(Qk cl cp os).2)
 else if(os.any fun o=>o.ans == -1)=true then([],0,26)
 else if budget<1∨1048576<budget then([],0,3)
 else if(Ki cl cp os os.length budget.toNat []).broken then([],0,28)
 else if(Ki cl cp os os.length budget.toNat []).found then((Ki cl cp os os.length budget.toNat []).ord,budget-(Ki cl cp os os.length budget.toNat []).left,0)
 else([],budget-(Ki cl cp os os.length budget.toNat []).left,23)
theorem Znw{cl cp:Int}{os:List Opn}{rec:Nat→List Nat→Sx}{i:Nat}{c:List Nat}{left:Nat}{ord:List Nat}(h:ord.contains i=true):Gn cl cp os rec (i::c) left ord=Gn cl cp os rec c left ord:=by
 rw[Gn,Zm4 h]
theorem Zx6{cl cp:Int}{os:List Opn}{rec:Nat→List Nat→Sx}{i:Nat}{c:List Nat}{ord:List Nat}(h:ord.contains i=false):Gn cl cp os rec (i::c) 0 ord=⟨false,true,0,ord⟩:=by
 rw[Gn,Zm2 (by rw[h];simp),Zm4 rfl]
theorem Zx7{cl cp:Int}{os:List Opn}{rec:Nat→List Nat→Sx}{i:Nat}{c:List Nat}{left:Nat}{ord:List Nat}(h:ord.contains i=false)(he:Kj os ord i=true):Gn cl cp os rec (i::c) (left+1) ord=Gn cl cp os rec c left ord:=by
 rw[Gn,Zm2 (by rw[h];simp),Zm2 (by omega),Zm4 he,Zkj]
theorem Zqu{cl cp:Int}{os:List Opn}{rec:Nat→List Nat→Sx}{i:Nat}{c:List Nat}{left:Nat}{ord:List Nat}(h:ord.contains i=false)(he:Kj os ord i=false)(hx:Zvs cl cp os (ord++[i])=false):Gn cl cp os rec (i::c) (left+1) ord=Gn cl cp os rec c left ord:=by
 rw[Gn,Zm2 (by rw[h];simp),Zm2 (by omega),Zm2 (by rw[he];simp),Zm2 (by rw[hx];simp),Zkj]
theorem Zqv{cl cp:Int}{os:List Opn}{rec:Nat→List Nat→Sx}{i:Nat}{c:List Nat}{left:Nat}{ord:List Nat}(h:ord.contains i=false)(he:Kj os ord i=false)(hx:Zvs cl cp os (ord++[i])=true)(hr:(rec left (ord++[i])).found=true∨(rec left (ord++[i])).broken=true) :
 Gn cl cp os rec (i::c) (left+1) ord=rec left (ord++[i]):=by
 rw[Gn,Zm2 (by rw[h];simp),Zm2 (by omega),Zm2 (by rw[he];simp),Zm4 hx,Zkj,Zm4 (by rcases hr with hr|hr<;>simp[hr])]
theorem Zth{cl cp:Int}{os:List Opn}{rec:Nat→List Nat→Sx}{i:Nat}{c:List Nat}{left:Nat}{ord:List Nat}(h:ord.contains i=false)(he:Kj os ord i=false)(hx:Zvs cl cp os (ord++[i])=true)(h1:(rec left (ord++[i])).found=false)(h2:(rec left (ord++[i])).broken=false) :
 Gn cl cp os rec (i::c) (left+1) ord=Gn cl cp os rec c (rec left (ord++[i])).left ord:=by
 rw[Gn,Zm2 (by rw[h];simp),Zm2 (by omega),Zm2 (by rw[he];simp),Zm4 hx,Zkj,Zm2 (by simp[h1,h2])]
section
section
variable {P:Program} {md:Region.Mode} {ops:Array Oper} {Q:Exit→Act→World→Prop} {S:World→Prop}
def Sm(md:Region.Mode)(ops:Array Oper)(z j:Nat):Bool:=((ops[z]?).map fun o=>o.after.any fun e=>Region.binds md e&&e.on==j).getD false
def Zv1(md:Region.Mode)(ops:Array Oper)(z:Nat):Bool :=
 (List.range ops.size).all fun j=>(j==z||Sm md ops z j||(List.range ops.size).any fun k=>!(k==z)&&Sm md ops z k&&Sm md ops k j)&&((ops[j]?).map fun o=>o.after.all fun e=>!Region.binds md e||decide (e.on<j)).getD false
theorem Bz{z j:Nat}{oz:Oper}(h:Sm md ops z j=true)(hoz:ops[z]?=some oz):∃ e∈oz.after,Region.binds md e=true∧e.on=j:=by
 unfold Sm at h;rw[hoz]at h;simp only[Zk3,Zk8,Zis]at h;obtain⟨e,he,h⟩:=h;simp only[Zlp,Zi3]at h;exact⟨e,he,h⟩
def Ae(md:Region.Mode)(ops:Array Oper)(listed:Array Bool):Prop:=∀ k,listed.getD k false=true→∀ o,ops[k]?=some o→∀ e∈o.after,Region.binds md e=true→listed.getD e.on false=true
theorem Ae.set{listed:Array Bool}{i:Nat}(h:Ae md ops listed)(hs:listed.size=ops.size)(hi:i∈Region.ready md ops listed):Ae md ops (listed.setIfInBounds i true):=by
 intro k hk o ho e he hb;obtain⟨h1,h2,o',h3,h4⟩:=mem_ready.1 hi;rw[Qa];split
 ·rfl
 rw[Qa]at hk;by_cases hki:i=k
 ·subst hki;rw[ho]at h3;cases h3
  exact h4 e he hb
 rw[Zm2 (fun h=>hki h.1)]at hk;exact h k hk o ho e he hb
theorem I7{z:Nat}(hz:z<ops.size)(hB:Zv1 md ops z=true):∀ (fuel:Nat) (listed:Array Bool) (a:Act) (w:World),listed.size=ops.size→listed.getD z true=false→Ae md ops listed →
 wpAnyH P md ops (Pg P ops Q z) S fuel (listed.setIfInBounds z true) a w→wpAny P md ops Q (fuel+1) listed a w:=by
 have hB':=hB;simp only[Zv1,Zjn,Zkh,Zlp,Zk4,Zi3,Zkt,Zkz]at hB';have hbef:∀ j,j<ops.size→∀ o,ops[j]?=some o→∀ e∈o.after,Region.binds md e=true→e.on<j:=fun j hj o ho e he hb=>by
  have h:=(hB' j hj).2;rw[ho]at h;simp only[Zk3,Zk8,Zkr,Zk4,Zkz,Zlu]at h;rcases h e he with h|h
  ·rw[hb]at h;simp at h
  exact h
 have F1:∀ listed:Array Bool,listed.size=ops.size→listed.getD z true=false→Region.ready md ops listed≠[]:=fun listed hs hzl h0=>by
  have hj:∀ j,j<ops.size→listed.getD j true=true:=fun j=>by
   induction j using Nat.strongRecOn with
   | _ j ih =>
    intro hj;cases hl:listed.getD j true with
    | true=>rfl
    | false =>
     exfalso;have:j∈Region.ready md ops listed:=mem_ready.2 ⟨hj,hl,ops[j],Zm9 hj,fun e he hb=>by
      have h1:=hbef j hj _ (Zm9 hj) e he hb;have h2:=ih e.on h1 (by omega);simp only[Zlz]at h2⊢;rw[Zm9 (by omega)]at h2⊢;exact h2⟩
     rw[h0]at this;simp at this
  rw[hj z hz]at hzl;simp at hzl
 have F2:∀ (listed:Array Bool) i,listed.size=ops.size→i≠z→i∈Region.ready md ops listed→i∈Region.ready md ops (listed.setIfInBounds z true):=fun listed i hs hne hi=>by
  obtain⟨h1,h2,o,h3,h4⟩:=mem_ready.1 hi;refine mem_ready.2 ⟨h1,by rw[Qa,Zm2 (fun h=>hne h.1.symm)];exact h2,o,h3,fun e he hb=>?_⟩;rw[Qa];split
  ·rfl
  exact h4 e he hb
 have F3:∀ listed:Array Bool,listed.size=ops.size→Ae md ops listed→z∈Region.ready md ops listed→Region.ready md ops (listed.setIfInBounds z true)=[]:=fun listed hs hcl hi=>by
  obtain⟨h1,h2,o,h3,h4⟩:=mem_ready.1 hi;rw[Zkl];intro j hj;obtain⟨j1,j2,_⟩:=mem_ready.1 hj;rw[Qa]at j2;by_cases hjz:z=j
  ·rw[Zm4 ⟨hjz,by omega⟩]at j2;simp at j2
  rw[Zm2 (fun h=>hjz h.1)]at j2;have h5:listed.getD j false=true:=by
   rcases(hB' j j1).1 with(h|h) | ⟨k,hk,⟨hkz,h⟩,h'⟩
   ·exact absurd h.symm hjz
   ·obtain⟨e,he,hb,hon⟩:=Bz h h3;rw[← hon];exact h4 e he hb
   obtain⟨e,he,hb,hon⟩:=Bz h h3;have h6:=h4 e he hb;rw[hon]at h6;obtain⟨e',he',hb',hon'⟩:=Bz h' (Zm9 hk);rw[← hon'];exact hcl k h6 _ (Zm9 hk) e' he' hb'
  simp only[Zlz]at h5 j2;rw[Zm9 (by omega)]at h5 j2;simp at h5 j2;rw[h5]at j2;simp at j2
 intro fuel
 induction fuel with
 | zero =>
  rintro listed a w hs hzl hcl ⟨hr,hq⟩;refine⟨fun h=>absurd h (F1 listed hs hzl),fun i hi=>?_⟩;by_cases hiz:i=z
  ·subst hiz;exact Zi2 (fun a' w' h=>⟨F3 listed hs hcl hi,h⟩) hq
  have:=F2 listed i hs hiz hi;rw[hr]at this;simp at this
 | succ fuel ih =>
  rintro listed a w hs hzl hcl ⟨hr,hq⟩;refine⟨fun h=>absurd h (F1 listed hs hzl),fun i hi=>?_⟩;by_cases hiz:i=z
  ·subst hiz;have h0:=F3 listed hs hcl hi;exact Zi2 (fun a' w' h=>⟨fun _=>h,by rw[h0];simp⟩) (hr h0)
  have h1:=hq i (F2 listed i hs hiz hi);refine Zi2 (fun a' w' h=>?_) (I8 h1);refine ih (listed.setIfInBounds i true) a' w' (by simp[hs]) (by rw[Qa,Zm2 (fun h=>hiz h.1)];exact hzl) (hcl.set hs hi) ?_;rw[Array.setIfInBounds_comm true true hiz];exact h.2
theorem Uf{id:Nat}{a:Act}{w:World}(z n:Nat)(hn:ops.size=n+1)(hz:z<ops.size)(hB:Zv1 .any ops z=true)(hm:P.follows .mixedOrders=true)(hS:S w.drew)
 (h:S w.drew→wpAnyH P .any ops (Pg P ops Q z) S n ((Array.replicate ops.size false).setIfInBounds z true) a w.drew):(Code.region id ops true).wp P Q a w:=by
 refine wp_region_any hm ?_;rw[hn];have h2:=h hS;rw[hn]at h2;have hz':z<n+1:=hn▸hz;refine I7 hz hB n _ a _ (by simp[hn]) (by simp[Zlz,hz']) (fun k hk=>?_) h2;simp only[Zlz,Array.getElem?_replicate]at hk;by_cases hkn:k<n+1<;>simp[hkn]at hk
end
end
end Go.Proofs.YtnbclgbicnpmnaaGreat
