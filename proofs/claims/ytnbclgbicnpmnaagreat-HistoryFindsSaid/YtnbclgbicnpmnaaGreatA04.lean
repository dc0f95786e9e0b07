/- Lemmas of this claim: ModA, ModE, ModB, ModC, ModD. Conditions: as named. -/
import Derived.Shelf.Abstract
import Derived.Test.YtnbclgbicnpmnaaGreatA03
namespace Go.Proofs.YtnbclgbicnpmnaaGreat
open Go.RowKit Go.Sort Tryz
set_option maxHeartbeats 0
set_option maxRecDepth 100000
set_option linter.all false
open Go.Maps (Keyed string_keyed)
open Go.ChangeMaps Go.MapKept Go.WideMaps
theorem Re:prog.underlying 191=some (.map 9 51):=by kernel_rfl
theorem Zz6:Keyed prog 9:=string_keyed Tryz.underlying9
theorem Zon(w:World):(zeroValue 51).run prog w=.ok (rcV default) w:=by kernel_rfl
def Zlh:Value→Option (DataW Unit×List MemPlace)
 | .agg ⟨[.int .i64 st,.int .i64 ow,.string nm,.int .i64 dl]⟩=>some (rcD ⟨st,ow,nm,dl⟩,[])
 | _=>none
theorem Zs1(r:Rc):Zlh (rcV r)=some (rcD r,[]):=rfl
theorem Zp4{v:Value}{z:DataW Unit×List MemPlace}(h:Zlh v=some z):∃ r,v=rcV r∧z=(rcD r,[]):=by
 unfold Zlh at h;split at h
 ·simp only[Yd]at h;subst h;exact⟨⟨_,_,_,_⟩,rfl,rfl⟩
 simp at h
theorem Pv{w:World}{b n:Nat}{D:DataW Unit}(h:w.ownsMap prog 9 Zlh b n D):w.ownsMap prog 9 Zlh b (Maps.size D) D:=by
 obtain⟨es,clock,hb,F,hs,rfl⟩:=h;refine⟨es,clock,hb,F,?_,rfl⟩;simp[Maps.size,length_sorted]
def MapAt(w:World)(m:Nat)(l:List Kp):Prop:=∃ D,w.ownsMap prog 9 Zlh m l.length D∧Ni D l
theorem MapAt.lt{w:World}{m:Nat}{l:List Kp}(h:MapAt w m l):m<w.heap.size:=by
 obtain⟨D,h,_⟩:=h;exact h.lt
theorem MapAt.keep{w w':World}{m:Nat}{l:List Kp}(h:MapAt w m l)(hk:w'.heap[m]?=w.heap[m]?):MapAt w' m l:=by
 obtain⟨D,⟨es,clock,hb,r⟩,h2⟩:=h;exact⟨D,⟨es,clock,hk.trans hb,r⟩,h2⟩
theorem MapAt.chg{S:Nat→Prop}{w w':World}{m:Nat}{l:List Kp}(h:MapAt w m l)(c:Chg S w w')(hm:¬ S m):MapAt w' m l:=h.keep (c.block m h.lt hm)
theorem MapAt.ext{w w':World}{m:Nat}{l:List Kp}(h:MapAt w m l)(x:Ext w w'):MapAt w' m l:=h.keep (x.block h.lt)
theorem MapAt.look{w:World}{m:Nat}{l:List Kp}(h:MapAt w m l){key:ByteArray}(hk:key.size≤maxLen):(Instr.lookup 191 (.map (some m)) (.string key) false).run prog w=.ok (rcV (Xg l key)) w:=by
 obtain⟨D,h1,h2⟩:=h;obtain⟨v,ps,hrun,hv⟩:=h1.lookup Zz6 Re (Zon w) (Zs1 default) (keyOf_string_mk Tryz.underlying9 hk);obtain⟨r,rfl,hz⟩:=Zp4 hv;have:=h2.get key;simp only[Zg5]at hz;rw[show Lit.string (kb key)=Lit.string key.data.toList from rfl,hz.1]at this;rw[← Zm7 this];exact hrun
theorem MapAt.len{w:World}{m:Nat}{l:List Kp}(h:MapAt w m l)(ty:TypeId):(Builtin.len_ #[191] ty #[.map (some m)]).run prog w=.ok (.int .i64 (l.length:Int)) w:=by
 obtain⟨D,h1,h2⟩:=h;have:=h1.len Re ty;rw[h2.size]at this;exact this
theorem MapAt.put{w:World}{m:Nat}{l:List Kp}(h:MapAt w m l)(hl:l.length<maxLen){key:ByteArray}(hk:key.size≤maxLen){r:Rc}(hr:r.st≠0) :
 ∃ w',(Instr.mapUpdate 191 (.map (some m)) (.string key) (rcV r)).run prog w=.ok () w'∧MapAt w' m (Jt l key r)∧Chg (· = m) w w'∧w'.heap.size=w.heap.size:=by
 obtain⟨D,h1,h2⟩:=h;obtain⟨w',hrun,h3,h4⟩:=h1.store Zz6 Re hl (keyOf_string_mk Tryz.underlying9 hk) (Zs1 r);have h5:=h2.put key r hr;have h6:=Pv h3;rw[show(Lit.string key.data.toList)=.string (kb key) from rfl,h5.size]at h6;refine⟨w',hrun,⟨_,h6,h5⟩,(Chg.refl _ w).grown h4.grown fun k hk=>.inl (by simpa using hk.symm),?_⟩;obtain⟨_,_,_,_,_,rfl⟩:=h4;simp[setBlock]
theorem MapAt.del{w:World}{m:Nat}{l:List Kp}(h:MapAt w m l){key:ByteArray}(hk:key.size≤maxLen){r:Rc}(hr:r.st=0)(ty:TypeId) :
 ∃ w',(Builtin.delete_ #[191,9] ty #[.map (some m),.string key]).run prog w=.ok (.tuple #[]) w'∧MapAt w' m (Jt l key r)∧Chg (· = m) w w'∧w'.heap.size=w.heap.size:=by
 obtain⟨D,h1,h2⟩:=h;obtain⟨w',hrun,h3,h4⟩:=h1.drop Zz6 Re (keyOf_string_mk Tryz.underlying9 hk) ty;have h5:=h2.del key r hr;have h6:=Pv h3;rw[show(Lit.string key.data.toList)=.string (kb key) from rfl,h5.size]at h6;refine⟨w',hrun,⟨_,h6,h5⟩,(Chg.refl _ w).grown h4.grown fun k hk=>.inl (by simpa using hk.symm),?_⟩;obtain⟨_,_,_,_,_,rfl⟩:=h4;simp[setBlock]
theorem Zwe(w:World):MapAt (w.alloc (.map #[] 0)) w.heap.size []:=⟨_,Zgf w _ _ _,Ni.empty⟩
structure Be(w:World)(b m:Nat)(cl cap:Int)(l:List Kp):Prop where
 c0:w.cell? ⟨b,0,none⟩=some (.int .i64 cl)
 c1:w.cell? ⟨b,1,none⟩=some (.int .i64 cap)
 c2:w.cell? ⟨b,2,none⟩=some (.map (some m))
 lt:b<w.heap.size
 ne:b≠m
 map:MapAt w m l
theorem Be.chg{S:Nat→Prop}{w w':World}{b m:Nat}{cl cap:Int}{l:List Kp}(h:Be w b m cl cap l)(c:Chg S w w')(hb:¬ S b)(hm:¬ S m):Be w' b m cl cap l :=
 ⟨(c.cell (p:=⟨b,0,none⟩) h.lt hb).trans h.c0,(c.cell (p:=⟨b,1,none⟩) h.lt hb).trans h.c1,(c.cell (p:=⟨b,2,none⟩) h.lt hb).trans h.c2,Zk8 h.lt c.size,h.ne,h.map.chg c hm⟩
theorem Be.ext{w w':World}{b m:Nat}{cl cap:Int}{l:List Kp}(h:Be w b m cl cap l)(x:Ext w w'):Be w' b m cl cap l:=h.chg (x.chg (fun _=>False)) (fun h=>h) (fun h=>h)
theorem Be.turn{w w':World}{b m:Nat}{cl cap:Int}{l l':List Kp}(h:Be w b m cl cap l)(c:Chg (· = m) w w')(hm:MapAt w' m l'):Be w' b m cl cap l' :=
 ⟨(c.cell (p:=⟨b,0,none⟩) h.lt h.ne).trans h.c0,(c.cell (p:=⟨b,1,none⟩) h.lt h.ne).trans h.c1,(c.cell (p:=⟨b,2,none⟩) h.lt h.ne).trans h.c2,Zk8 h.lt c.size,h.ne,hm⟩
def V7(cl cap:Int):Int:=if cl<1∨64<cl∨cap<1∨64<cap then 3 else 0
theorem Ok(cl cap:Int):(decide (cl<1)=true∧V7 cl cap=3)∨(decide (cl<1)=false∧decide (64<cl)=true∧V7 cl cap=3)∨(decide (cl<1)=false∧decide (64<cl)=false∧decide (cap<1)=true∧V7 cl cap=3) ∨
 (decide (cl<1)=false∧decide (64<cl)=false∧decide (cap<1)=false∧decide (64<cap)=true∧V7 cl cap=3)∨(decide (cl<1)=false∧decide (64<cl)=false∧decide (cap<1)=false∧decide (64<cap)=false∧V7 cl cap=0):=by
 by_cases h1:cl<1
 ·exact .inl ⟨by simpa using h1,by simp[V7,h1]⟩
 by_cases h2:64<cl
 ·exact .inr (.inl ⟨by simpa using h1,by simpa using h2,by simp[V7,h2]⟩)
 by_cases h3:cap<1
 ·exact .inr (.inr (.inl ⟨by simpa using h1,by simpa using h2,by simpa using h3,by simp[V7,h3]⟩))
 by_cases h4:64<cap
 ·exact .inr (.inr (.inr (.inl ⟨by simpa using h1,by simpa using h2,by simpa using h3,by simpa using h4,by simp[V7,h4]⟩)))
 exact .inr (.inr (.inr (.inr ⟨by simpa using h1,by simpa using h2,by simpa using h3,by simpa using h4,by simp[V7];omega⟩)))
theorem Py(cl cap:Int)(w:World):Calls prog 121 #[.agg #[.int .i64 cl,.int .i64 cap]] w fun e w'=>e=.returned (.int .i64 (V7 cl cap))∧Ext w w':=by
 rcases Ok cl cap with⟨d1,hc⟩ | ⟨d1,d2,hc⟩ | ⟨d1,d2,d3,hc⟩ | ⟨d1,d2,d3,d4,hc⟩ | ⟨d1,d2,d3,d4,hc⟩<;>(
  rw[hc];clear hc;go_enter func121,ntmps121;go_wp2_with fail;go_ret;exact⟨rfl,xE⟩)
theorem Bn(cl cap:Int)(w:World):Calls prog 69 #[.agg #[.int .i64 cl,.int .i64 cap]] w fun e w'=>e=.returned (.int .i64 (V7 cl cap))∧Ext w w':=by
 rcases Ok cl cap with⟨d1,hc⟩ | ⟨d1,d2,hc⟩ | ⟨d1,d2,d3,hc⟩ | ⟨d1,d2,d3,d4,hc⟩ | ⟨d1,d2,d3,d4,hc⟩<;>(
  rw[hc];clear hc;go_enter func69,ntmps69;go_wp2_with fail;go_ret;exact⟨rfl,xE⟩)
def Znf(cl cap:Int)(w:World)(e:Ending)(w':World):Prop :=
 (V7 cl cap=3∧e=.returned (.tuple #[.pointer none,.int .i64 3])∧Ext w w') ∨
 (V7 cl cap=0∧∃ b m,e=.returned (.tuple #[.pointer (some ⟨b,0,none⟩),.int .i64 0])∧Be w' b m cl cap []∧w.heap.size≤b∧w.heap.size≤m∧Ext w w')
theorem P0(cl cap:Int):V7 cl cap=3∨V7 cl cap=0:=by unfold V7;split<;>simp
theorem Fg(cl cap:Int)(w:World):Calls prog 83 #[.agg #[.int .i64 cl,.int .i64 cap]] w (Znf cl cap w):=by
 have hmm:=@run_makeMap prog;have H:=Y4 (Eq.refl (V7 cl cap));rcases P0 cl cap with hc|hc
 ·go_enter func83,ntmps83;go_wp2_with fail;refine(Py cl cap _).mono ?_;rintro x w1 ⟨rfl,hx1⟩;rw[hc];have Hx1:=Y4 (((Yl w).alloc _).trans hx1);have Hc:=Y4 hc;clear hx1 hc;go_wp2_with fail;go_ret2;exact .inl ⟨Hc.o,rfl,Hx1.o⟩
 go_enter func83,ntmps83;go_wp2_with fail;refine(Py cl cap _).mono ?_;rintro x w1 ⟨rfl,hx1⟩;rw[hc];have k0:w1.cell? ⟨w.heap.size,0,none⟩=some (.int .i64 cl):=(hx1.cell (by simp)).trans (by go_simp);have k1:w1.cell? ⟨w.heap.size,1,none⟩=some (.int .i64 cap):=(hx1.cell (by simp)).trans (by go_simp);have Hx1:=Y4 (((Yl w).alloc _).trans hx1);have Hc:=Y4 hc;clear hx1 hc;go_wp2_with fail;go_ret2;have hz:=Hx1.o.size;refine .inr ⟨Hc.o,w1.heap.size+1,w1.heap.size,rfl,⟨?_,?_,?_,by simp,by omega,?_⟩,by omega,hz,(Hx1.o.alloc _).alloc _⟩
 ·go_simp
 ·go_simp
 ·go_simp
 exact(Zwe w1).ext ((Yl _).alloc _)
def Ld(p:Kp):List Value:=[.string p.1,.int .i64 p.2.st,.int .i64 p.2.ow,.string p.2.nm,.int .i64 p.2.dl]
def Wi:List Kp→List Value
 | []=>[]
 | p::l=>Ld p++Wi l
theorem Ug:∀ a b:List Kp,Wi (a++b)=Wi a++Wi b
 | [],_=>rfl
 | p::a,b=>by simp[Wi,Ug a b]
theorem Lc:∀ {l:List Kp} {j:Nat} {p:Kp},l[j]?=some p→(Wi l)[j*5]?=some (.string p.1)∧(Wi l)[j*5+1]?=some (.int .i64 p.2.st)∧(Wi l)[j*5+2]?=some (.int .i64 p.2.ow)∧(Wi l)[j*5+3]?=some (.string p.2.nm)∧(Wi l)[j*5+4]?=some (.int .i64 p.2.dl)
 | q::l,0,p,h=>by
  simp only[Zx,Yd]at h;subst h;simp[Wi,Ld]
 | q::l,j+1,p,h=>by
  obtain⟨h1,h2,h3,h4,h5⟩:=Lc (l:=l) (j:=j) (p:=p) (by simpa using h);have e:∀ i,(Wi (q::l))[(j+1)*5+i]?=(Wi l)[j*5+i]?:=fun i=>by
   rw[Wi,Zd (by simp[Ld];omega)];congr 1;simp[Ld];omega
  exact⟨(e 0).trans h1,(e 1).trans h2,(e 2).trans h3,(e 3).trans h4,(e 4).trans h5⟩
def KeptAt(w:World)(S:Nat→Prop)(v:Value)(l:List Kp):Prop:=Rd w S 5 v l.length (Wi l)
theorem KeptAt.get{w:World}{S:Nat→Prop}{v:Value}{l:List Kp}(h:KeptAt w S v l){j:Nat}{p:Kp}(hp:l[j]?=some p) :
 ∃ g o c,v=.slice (some ⟨g,o,none⟩) l.length c∧l.length≤c∧c≤maxLen∧S g∧g<w.heap.size ∧
  w.cell? ⟨g,o+j*5,none⟩=some (.string p.1)∧w.cell? ⟨g,o+j*5+1,none⟩=some (.int .i64 p.2.st)∧w.cell? ⟨g,o+j*5+2,none⟩=some (.int .i64 p.2.ow)∧w.cell? ⟨g,o+j*5+3,none⟩=some (.string p.2.nm)∧w.cell? ⟨g,o+j*5+4,none⟩=some (.int .i64 p.2.dl):=by
 obtain⟨g,o,c,h1,h2,h3,h4,h5,h6⟩:=Rd.at_ h (Zr.1 hp).1;obtain⟨q1,q2,q3,q4,q5⟩:=Lc hp;exact⟨g,o,c,h1,h2,h3,h4,h5,h6 _ _ q1,h6 _ _ q2,h6 _ _ q3,h6 _ _ q4,h6 _ _ q5⟩
theorem KeptAt.shape{w:World}{S:Nat→Prop}{v:Value}{l:List Kp}(h:KeptAt w S v l):∃ A c,v=.slice A l.length c:=by
 obtain⟨_,A,c,h,_⟩:=h;exact⟨A,c,h⟩
theorem Ztu{l:List Kp}{k:Nat}{p:Kp}{key:ByteArray}(h:l[k]?=some p):Xg (l.drop k) key=if p.1=key then p.2 else Xg (l.drop (k+1)) key:=by
 rw[K2 h,Xg]
theorem Qp:(default:Rc)=⟨0,0,⟨#[]⟩,0⟩:=rfl
theorem Rl{S:Nat→Prop}(v:Value)(l:List Kp)(key:ByteArray)(w:World)(hl:KeptAt w S v l) :
 Calls prog 71 #[v,.string key] w fun e w'=>e=.returned (rcV (Xg l key))∧Ext w w':=by
 obtain⟨A,c,rfl⟩:=hl.shape;have hlm:=hl.len;unfold maxLen at hlm;have Hl:=Y4 hl;clear hl;obtain⟨rb,hrb⟩:=gnX (w.heap.size);have Hrb:=Y4 hrb;go_enter func71,ntmps71;go_wp2_with fail;clear hrb;go_loopw [9] (fun o wr=>∃ k:Nat,k≤l.length∧o=.int .i64 (k:Int)∧Xg l key=Xg (l.drop k) key∧Ext w wr∧wr.cell? ⟨rb,0,none⟩=some (.int .i64 0)∧wr.cell? ⟨rb,1,none⟩=some (.int .i64 0)∧wr.cell? ⟨rb,2,none⟩=some (.string ⟨#[]⟩)∧wr.cell? ⟨rb,3,none⟩=some (.int .i64 0)∧(∀ i,wr.frozen? ⟨rb,i,none⟩=false)∧rb<wr.heap.size) (fun o _=>l.length-(intOf o).toNat);case atStart=>exact⟨0,by omega,rfl,rfl,(Yl w).alloc _,by rw[← Hrb.o];go_simp,by rw[← Hrb.o];go_simp,by rw[← Hrb.o];go_simp,by rw[← Hrb.o];go_simp,fun i=>by rw[← Hrb.o];go_simp,by rw[← Hrb.o];simp⟩
 obtain⟨k,hk,rfl,hg,hx,y0,y1,y2,y3,yf,yb⟩:=hrel;have Hg:=Y4 hg;have Hx:=Y4 hx;clear hg hx;have Hrw:=Y4 (show w.heap.size≤rb from by rw[Hrb.o];exact Yn _);by_cases hlt:k<l.length
 ·have hd:decide ((k:Int)<(l.length:Int))=true:=by simpa using hlt
  obtain⟨p,hpk⟩:∃ p,l[k]?=some p:=⟨l[k],by simp[hlt]⟩;obtain⟨g,o,c',hv,p1,p2,_,b1,x0,x1,x2,x3,x4⟩:=KeptAt.get (Rd.ext Hl.o Hx.o) hpk;simp only[Ye,Zjj]at hv;obtain⟨rfl,rfl⟩:=hv;have i0:(0:Int)≤(k:Int):=by omega
  have i1:(k:Int)<(l.length:Int):=by omega
  have hgd:=Ztu (key:=key) hpk;clear hpk;by_cases he:p.1=key
  ·rw[Zjx he]at hgd;subst he;have Hgd:=Y4 (Hg.o.trans hgd);clear hgd;go_wp2_with fail;refine Ys (v:=rcV (Xg l p.1)) ?_ rfl ⟨rfl,?_⟩
   ·rw[Hgd.o];simp[results,results71,go_sem,rcV, *]
   refine Yk ?_ _;(repeat refine Ya ?_ (by exact Hrw.o) _);exact Hx.o
  rw[Zk9 he]at hgd;have hne:(p.1.toList==key.toList)=false:=by rw[Zj1,Zj1];simp only[beq_eq_false_iff_ne];exact fun e=>he (O9 e)
  have Hgd:=Y4 (Hg.o.trans hgd);clear hgd he;go_wp2_with fail;go_roundw;case rel =>
   refine⟨k+1,by omega,by go_num,Hgd.o,Hx.o.alloc _,?_,?_,?_,?_,fun i=>?_,by simp;omega⟩<;>go_simp
  case measure=>simp[intOf];omega
 have hd:decide ((k:Int)<(l.length:Int))=false:=by simp;omega
 go_wp2_with fail;refine Ys (v:=rcV (Xg l key)) ?_ rfl ⟨rfl,?_⟩
 ·rw[Hg.o,Zim (by omega)];simp[results,results71,go_sem,rcV,Xg,Qp, *]
 (repeat refine Ya ?_ (by exact Hrw.o) _);exact Hx.o
structure Vh(w:World)(S:Nat→Prop)(b:Nat)(cl cap:Int)(l:List Kp):Prop where
 c0:w.cell? ⟨b,0,none⟩=some (.int .i64 cl)
 c1:w.cell? ⟨b,1,none⟩=some (.int .i64 cap)
 c2:∃ v,w.cell? ⟨b,2,none⟩=some v∧KeptAt w S v l
 fz:∀ i,w.frozen? ⟨b,i,none⟩=false
 lt:b<w.heap.size
 nS:¬ S b
theorem Vh.chg{S T:Nat→Prop}{w w':World}{b:Nat}{cl cap:Int}{l:List Kp}(h:Vh w S b cl cap l)(c:Chg T w w')(hb:¬ T b)(hS:∀ k,S k→¬ T k):Vh w' S b cl cap l:=by
 obtain⟨v,h1,h2⟩:=h.c2;exact⟨(c.cell (p:=⟨b,0,none⟩) h.lt hb).trans h.c0,(c.cell (p:=⟨b,1,none⟩) h.lt hb).trans h.c1,⟨v,(c.cell (p:=⟨b,2,none⟩) h.lt hb).trans h1,Rd.chg h2 c hS⟩,fun i=>(c.frozen (p:=⟨b,i,none⟩) h.lt hb).trans (h.fz i),Zk8 h.lt c.size,h.nS⟩
theorem Vh.ext{S:Nat→Prop}{w w':World}{b:Nat}{cl cap:Int}{l:List Kp}(h:Vh w S b cl cap l)(x:Ext w w'):Vh w' S b cl cap l:=h.chg (x.chg (fun _=>False)) (fun h=>h) (fun _ _ h=>h)
def Zqo(cl cap:Int)(w:World)(e:Ending)(w':World):Prop :=
 (V7 cl cap=3∧e=.returned (.tuple #[.pointer none,.int .i64 3])∧Ext w w') ∨
 (V7 cl cap=0∧∃ b,e=.returned (.tuple #[.pointer (some ⟨b,0,none⟩),.int .i64 0])∧Vh w' (fun _=>False) b cl cap []∧w.heap.size≤b∧Ext w w')
theorem Zs2(cl cap:Int)(w:World):Calls prog 29 #[.agg #[.int .i64 cl,.int .i64 cap]] w (Zqo cl cap w):=by
 rcases P0 cl cap with hc|hc
 ·go_enter func29,ntmps29;go_wp2_with fail;refine(Bn cl cap _).mono ?_;rintro x w1 ⟨rfl,hx1⟩;rw[hc];have Hx1:=Y4 (((Yl w).alloc _).trans hx1);have Hc:=Y4 hc;clear hx1 hc;go_wp2_with fail;go_ret2;exact .inl ⟨Hc.o,rfl,Hx1.o⟩
 go_enter func29,ntmps29;go_wp2_with fail;refine(Bn cl cap _).mono ?_;rintro x w1 ⟨rfl,hx1⟩;rw[hc];have k0:w1.cell? ⟨w.heap.size,0,none⟩=some (.int .i64 cl):=(hx1.cell (by simp)).trans (by go_simp);have k1:w1.cell? ⟨w.heap.size,1,none⟩=some (.int .i64 cap):=(hx1.cell (by simp)).trans (by go_simp);have Hx1:=Y4 (((Yl w).alloc _).trans hx1);have Hc:=Y4 hc;clear hx1 hc;go_wp2_with fail;go_ret2;have hz:=Hx1.o.size;refine .inr ⟨Hc.o,w1.heap.size,rfl,⟨?_,?_,⟨.slice none 0 0,?_,Rd.nil _ _ _⟩,fun i=>?_,by simp,fun h=>h⟩,hz,Hx1.o.alloc _⟩
 ·go_simp
 ·go_simp
 ·go_simp
 go_simp
open Go.RowKit Go.Sort Go.Shelf
theorem Ns(op:Int):((op==1)=true∧Wz op=true)∨((op==1)=false∧(op==3)=true∧Wz op=true)∨((op==1)=false∧(op==3)=false∧Wz op=false):=by
 by_cases h1:op=1
 ·exact .inl ⟨by simpa using h1,by simp[Wz,h1]⟩
 by_cases h3:op=3
 ·exact .inr (.inl ⟨by simpa using h1,by simpa using h3,by simp[Wz,h3]⟩)
 exact .inr (.inr ⟨by simpa using h1,by simpa using h3,by simp[Wz,h1,h3]⟩)
theorem Ve(op:Int)(w:World):Calls prog 156 #[.int .i64 op] w fun e w'=>e=.returned (.bool (Wz op))∧w=w':=by
 rcases Ns op with⟨d1,hc⟩ | ⟨d1,d2,hc⟩ | ⟨d1,d2,hc⟩<;>(
  rw[hc];clear hc;go_enter func156,ntmps156;go_wp2_with fail;go_ret;exact⟨rfl,rfl⟩)
theorem V3(op:Int)(w:World):Calls prog 101 #[.int .i64 op] w fun e w'=>e=.returned (.bool (Wz op))∧w=w':=by
 rcases Ns op with⟨d1,hc⟩ | ⟨d1,d2,hc⟩ | ⟨d1,d2,hc⟩<;>(
  rw[hc];clear hc;go_enter func101,ntmps101;go_wp2_with fail;go_ret;exact⟨rfl,rfl⟩)
theorem O0(n:Nm):(n.a.toList=[]∧n.a.toList.isEmpty=true∧n.a.size=0∧Q7 n=false)∨(n.a.toList.isEmpty=false∧decide ((63:Int)<(n.a.size:Int))=true∧¬ n.a.toList=[]∧63<n.a.size∧Q7 n=false)∨(n.a.toList.isEmpty=false∧decide ((63:Int)<(n.a.size:Int))=false∧¬ n.a.toList=[]∧1≤n.a.size∧n.a.size≤63∧Q7 n=true):=by
 have e:n.a.toList.length=n.a.size:=by rw[Zj1];rfl
 cases h:n.a.toList with
 | nil=>rw[h]at e;simp at e;exact .inl ⟨rfl,rfl,e.symm,by simp[Q7,← e]⟩
 | cons x r =>
  rw[h]at e;simp at e;by_cases h2:63<n.a.size
  ·exact .inr (.inl ⟨rfl,by simp;omega,by simp,h2,by simp[Q7];omega⟩)
  exact .inr (.inr ⟨rfl,by simp;omega,by simp,by omega,by omega,by simp[Q7];omega⟩)
theorem Zyn(n:Nm)(w:World):Calls prog 158 #[.agg #[.string n.a,.string n.u,.string n.k]] w fun e w'=>e=.returned (.bool (!Q7 n))∧Ext w w':=by
 rcases O0 n with⟨d1,d2,d3,hc⟩ | ⟨d2,d3,d1,d4,hc⟩ | ⟨d2,d3,d1,d4,d5,hc⟩<;>(
  rw[hc];clear hc;go_enter func158,ntmps158;go_wp2_with fail;go_ret;exact⟨by first|rfl|(simp[d1,d2];done)|(simp;omega),xE⟩)
def Zqw(ns:List Nm)(w:World)(e:Ending)(w':World):Prop:=∃ z:Int,e=.returned (.int .i64 z)∧decide (0≤z) = !(ns.all Q7)∧Ext w w'
theorem Zyo{ns:List Nm}{k:Nat}{n:Nm}(h:(ns.take k).all Q7=true)(hn:ns[k]?=some n)(hg:Q7 n=true):(ns.take (k+1)).all Q7=true:=by
 rw[take_at hn,List.all_append,h];simp[hg]
theorem Zzm{ns:List Nm}{k:Nat}{n:Nm}(hn:ns[k]?=some n)(hg:Q7 n=false):ns.all Q7=false:=by
 rw[List.all_eq_false];exact⟨n,Zy hn,by simp[hg]⟩
theorem Ztp{S:Nat→Prop}(v:Value)(ns:List Nm)(w:World)(hn:Vw w S v ns) :
 Calls prog 172 #[v,.func (.func 158) #[] #[]] w (Zqw ns w):=by
 obtain⟨A,c,rfl⟩:=hn.shape;have hlm:=hn.len;unfold maxLen at hlm;have eg:∀ args w,(callFunc 158 args).run prog w=.ok (.enter 158 args) w:=enters_of func158 (by kernel_rfl) rfl;have Hn:=Y4 hn;clear hn;go_enter func172,ntmps172;go_wp2_with fail;go_loopw [8] (fun o wr=>∃ k:Nat,k≤ns.length∧o=.int .i64 (k:Int)∧(ns.take k).all Q7=true∧Ext w wr) (fun o _=>ns.length-(intOf o).toNat);case atStart=>exact⟨0,by omega,rfl,by simp,Yl w⟩
 obtain⟨k,hk,rfl,hg,hx⟩:=hrel;have Hg:=Y4 hg;have Hx:=Y4 hx;clear hg hx;by_cases hlt:k<ns.length
 ·have hd:decide ((k:Int)<(ns.length:Int))=true:=by simpa using hlt
  obtain⟨g,o,c',hv,p1,p2,_,b1,hcell⟩:=(Hn.o.ext Hx.o).get hlt;simp only[Ye,Zjj]at hv;obtain⟨rfl,rfl⟩:=hv;obtain⟨n,hnk⟩:∃ n,ns[k]?=some n:=⟨ns[k],by simp[hlt]⟩;obtain⟨x1,x2,x3⟩:=hcell _ _ hnk;have i0:(0:Int)≤(k:Int):=by omega
  have i1:(k:Int)<(ns.length:Int):=by omega
  have Hnk:=Y4 hnk;clear hcell hnk;cases hg:Q7 n with
  | true =>
   have Hgn:=Y4 hg;go_wp2_with (go_at_fn 158;refine(Zyn n _).mono ?_;rintro e w1 ⟨rfl,hy⟩;rw[hg]);go_roundw;case rel=>exact⟨k+1,by omega,by go_num,Zyo Hg.o Hnk.o Hgn.o,Hx.o.trans hy⟩
   simp[intOf];omega
  | false =>
   have Hgn:=Y4 hg;go_wp2_with (go_at_fn 158;refine(Zyn n _).mono ?_;rintro e w1 ⟨rfl,hy⟩;rw[hg]);go_ret;exact⟨k,rfl,by rw[Zzm Hnk.o Hgn.o];simp,Hx.o.trans hy⟩
 have hd:decide ((k:Int)<(ns.length:Int))=false:=by simp;omega
 go_wp2_with fail;go_ret;refine⟨-1,rfl,?_,Hx.o⟩;have:=Hg.o;rw[Zm (by omega)]at this;rw[this];rfl
theorem Si{S:Nat→Prop}(v:Value)(ns:List Nm)(w:World)(hn:Vw w S v ns) :
 Calls prog 157 #[v,.func (.func 158) #[] #[]] w fun e w'=>e=.returned (.bool (!(ns.all Q7)))∧Ext w w':=by
 have Hn:=Y4 hn;clear hn;go_enter func157,ntmps157;go_wp2_with fail;refine(Ztp v ns _ Hn.o).mono ?_;rintro e w1 ⟨z,rfl,hz,hx⟩;have Hx:=Y4 hx;have Hz:=Y4 hz;clear hx hz;go_wp2_with fail;go_ret;exact⟨by rw[← Hz.o];rfl,Hx.o⟩
theorem Af(cl client op ttl now:Int)(ns:List Nm) :
 Q1 cl client op ttl now ns=false∧(client<0∨(0≤client∧cl≤client)∨(0≤client∧client<cl∧op<1)∨(0≤client∧client<cl∧1≤op∧7<op)∨(0≤client∧client<cl∧1≤op∧op≤7∧now<0)∨(0≤client∧client<cl∧1≤op∧op≤7∧0≤now∧1073741824<now)) ∨
 (0≤client∧client<cl∧1≤op∧op≤7∧0≤now∧now≤1073741824 ∧
   ((Q1 cl client op ttl now ns=false∧((Wz op=true∧ttl<1)∨(Wz op=true∧1≤ttl∧1073741824<ttl)∨(Wz op=false∧ttl≠0))) ∨
    (((Wz op=true∧1≤ttl∧ttl≤1073741824)∨(Wz op=false∧ttl=0)) ∧
     ((Q1 cl client op ttl now ns=false∧(ns.length<1∨(1≤ns.length∧16<ns.length)∨(1≤ns.length∧ns.length≤16∧op=7∧1<ns.length))) ∨
      (1≤ns.length∧ns.length≤16∧(op≠7∨(op=7∧ns.length≤1))∧Q1 cl client op ttl now ns=(srt ns&&ns.all Q7)))))):=by
 have hF:∀ q:¬ Oq cl client op ttl now ns,Q1 cl client op ttl now ns=false:=fun q=>by simpa[Q1]using q
 by_cases a1:client<0
 ·exact .inl ⟨hF fun p=>by have:=p.c0;omega,.inl a1⟩
 by_cases a2:cl≤client
 ·exact .inl ⟨hF fun p=>by have:=p.c1;omega,.inr (.inl ⟨by omega,a2⟩)⟩
 by_cases a3:op<1
 ·exact .inl ⟨hF fun p=>by have:=p.o0;omega,.inr (.inr (.inl ⟨by omega,by omega,a3⟩))⟩
 by_cases a4:7<op
 ·exact .inl ⟨hF fun p=>by have:=p.o1;omega,.inr (.inr (.inr (.inl ⟨by omega,by omega,by omega,a4⟩)))⟩
 by_cases a5:now<0
 ·exact .inl ⟨hF fun p=>by have:=p.n0;omega,.inr (.inr (.inr (.inr (.inl ⟨by omega,by omega,by omega,by omega,a5⟩))))⟩
 by_cases a6:1073741824<now
 ·exact .inl ⟨hF fun p=>by have:=p.n1;omega,.inr (.inr (.inr (.inr (.inr ⟨by omega,by omega,by omega,by omega,by omega,a6⟩))))⟩
 refine .inr ⟨by omega,by omega,by omega,by omega,by omega,by omega,?_⟩;have htt:((Wz op=true∧ttl<1)∨(Wz op=true∧1≤ttl∧1073741824<ttl)∨(Wz op=false∧ttl≠0))∨((Wz op=true∧1≤ttl∧ttl≤1073741824)∨(Wz op=false∧ttl=0)):=by
  cases Wz op<;>simp<;>omega
 rcases htt with ht|ht
 ·refine .inl ⟨hF fun p=>?_,ht⟩;rcases ht with⟨h,h'⟩ | ⟨h,h'⟩ | ⟨h,h'⟩
  ·have:=p.t1 h;omega
  ·have:=p.t1 h;omega
  exact h' (p.t0 h)
 refine .inr ⟨ht,?_⟩;by_cases b1:ns.length<1
 ·exact .inl ⟨hF fun p=>by have:=p.l0;omega,.inl b1⟩
 by_cases b2:16<ns.length
 ·exact .inl ⟨hF fun p=>by have:=p.l1;omega,.inr (.inl ⟨by omega,b2⟩)⟩
 by_cases b3:op=7∧1<ns.length
 ·exact .inl ⟨hF fun p=>by have:=p.q b3.1;omega,.inr (.inr ⟨by omega,by omega,b3⟩)⟩
 refine .inr ⟨by omega,by omega,by omega,?_⟩;unfold Q1;by_cases h:srt ns=true∧ns.all Q7=true
 ·rw[h.1,h.2];refine Yf ⟨by omega,by omega,by omega,by omega,by omega,by omega,fun h=>?_,fun h=>?_,by omega,by omega,by omega,h.1,h.2⟩
  ·rcases ht with⟨_,h1,h2⟩ | ⟨h1,_⟩
   ·exact⟨h1,h2⟩
   rw[h]at h1;simp at h1
  rcases ht with⟨h1,_⟩ | ⟨_,h1⟩
  ·rw[h]at h1;simp at h1
  exact h1
 rw[Yg fun p=>h ⟨p.srt,p.good⟩];cases hs:srt ns with
 | false=>rfl
 | true=>cases ha:ns.all Q7 with
  | false=>rfl
  | true=>exact absurd ⟨hs,ha⟩ h
open Go.RowKit Go.Sort Go.Shelf
theorem Rp{S:Nat→Prop}(b:Nat)(cl client op ttl now:Int)(v:Value)(ns:List Nm)(w:World)(c0:w.cell? ⟨b,0,none⟩=some (.int .i64 cl))(hn:Vw w S v ns) :
 Calls prog 122 #[.pointer (some ⟨b,0,none⟩),.int .i64 client,.int .i64 op,.int .i64 ttl,v,.int .i64 now] w fun e w'=>e=.returned (.bool (Q1 cl client op ttl now ns))∧Ext w w':=by
 obtain⟨A,c,rfl⟩:=hn.shape;have hlm:=hn.len;unfold maxLen at hlm;have Hn:=Y4 hn;clear hn;rcases Af cl client op ttl now ns with⟨hp,h⟩ | ⟨q1,q2,q3,q4,q5,q6,h⟩
 ·rw[hp];clear hp;rcases h with h1 | ⟨h1,h2⟩ | ⟨h1,h2,h3⟩ | ⟨h1,h2,h3,h4⟩ | ⟨h1,h2,h3,h4,h5⟩ | ⟨h1,h2,h3,h4,h5,h6⟩
  ·have d1:decide (client<0)=true:=by simpa using h1
   go_enter func122,ntmps122;go_wp2_with fail;go_ret;exact⟨rfl,xE⟩
  ·have d1:decide (client<0)=false:=by simpa using h1
   have d2:decide (cl≤client)=true:=by simpa using h2
   go_enter func122,ntmps122;go_wp2_with fail;go_ret;exact⟨rfl,xE⟩
  ·have d1:decide (client<0)=false:=by simpa using h1
   have d2:decide (cl≤client)=false:=by simpa using h2
   have d3:decide (op<1)=true:=by simpa using h3
   go_enter func122,ntmps122;go_wp2_with fail;go_ret;exact⟨rfl,xE⟩
  ·have d1:decide (client<0)=false:=by simpa using h1
   have d2:decide (cl≤client)=false:=by simpa using h2
   have d3:decide (op<1)=false:=by simpa using h3
   have d4:decide (7<op)=true:=by simpa using h4
   go_enter func122,ntmps122;go_wp2_with fail;go_ret;exact⟨rfl,xE⟩
  ·have d1:decide (client<0)=false:=by simpa using h1
   have d2:decide (cl≤client)=false:=by simpa using h2
   have d3:decide (op<1)=false:=by simpa using h3
   have d4:decide (7<op)=false:=by simpa using h4
   have d5:decide (now<0)=true:=by simpa using h5
   go_enter func122,ntmps122;go_wp2_with fail;go_ret;exact⟨rfl,xE⟩
  have d1:decide (client<0)=false:=by simpa using h1
  have d2:decide (cl≤client)=false:=by simpa using h2
  have d3:decide (op<1)=false:=by simpa using h3
  have d4:decide (7<op)=false:=by simpa using h4
  have d5:decide (now<0)=false:=by simpa using h5
  have d6:decide (1073741824<now)=true:=by simpa using h6
  go_enter func122,ntmps122;go_wp2_with fail;go_ret;exact⟨rfl,xE⟩
 have d1:decide (client<0)=false:=by simpa using q1
 have d2:decide (cl≤client)=false:=by simpa using q2
 have d3:decide (op<1)=false:=by simpa using q3
 have d4:decide (7<op)=false:=by simpa using q4
 have d5:decide (now<0)=false:=by simpa using q5
 have d6:decide (1073741824<now)=false:=by simpa using q6
 clear q1 q2 q3 q4 q5 q6;rcases h with⟨hp,h⟩ | ⟨h,h'⟩
 ·rw[hp];clear hp;rcases h with⟨ht,h⟩ | ⟨ht,h1,h⟩ | ⟨ht,h⟩
  ·have d7:decide (ttl<1)=true:=by simpa using h
   go_enter func122,ntmps122;go_wp2_with (go_at_call 156;refine(Ve _ _).mono ?_;rintro e w1 ⟨rfl,rfl⟩;rw[ht]);go_ret;exact⟨rfl,xE⟩
  ·have d7:decide (ttl<1)=false:=by simpa using h1
   have d8:decide (1073741824<ttl)=true:=by simpa using h
   go_enter func122,ntmps122;go_wp2_with (go_at_call 156;refine(Ve _ _).mono ?_;rintro e w1 ⟨rfl,rfl⟩;rw[ht]);go_ret;exact⟨rfl,xE⟩
  have d7:(ttl==0)=false:=by simpa using h
  go_enter func122,ntmps122;go_wp2_with (go_at_call 156;refine(Ve _ _).mono ?_;rintro e w1 ⟨rfl,rfl⟩;rw[ht]);go_ret;exact⟨rfl,xE⟩
 have T:∃ b1 b2:Bool,(Wz op=true∧decide (ttl<1)=false∧decide (1073741824<ttl)=false)∨(Wz op=false∧(ttl==0)=true):=by
  refine⟨true,true,?_⟩;rcases h with⟨ht,h1,h2⟩ | ⟨ht,h1⟩
  ·exact .inl ⟨ht,by simpa using h1,by simpa using h2⟩
  exact .inr ⟨ht,by simpa using h1⟩
 clear h;obtain⟨_,_,T⟩:=T;rcases h' with⟨hp,h⟩ | ⟨l1,l2,hq,hp⟩
 ·rw[hp];clear hp;rcases h with h | ⟨h1,h⟩ | ⟨h1,h2,h3,h⟩
  ·have d9:decide ((ns.length:Int)<1)=true:=by simp;omega
   rcases T with⟨ht,t1,t2⟩ | ⟨ht,t1⟩<;>(
    go_enter func122,ntmps122;go_wp2_with (go_at_call 156;refine(Ve _ _).mono ?_;rintro e w1 ⟨rfl,rfl⟩;rw[ht]);go_ret;exact⟨rfl,xE⟩)
  ·have d9:decide ((ns.length:Int)<1)=false:=by simp;omega
   have d10:decide ((16:Int)<(ns.length:Int))=true:=by simp;omega
   rcases T with⟨ht,t1,t2⟩ | ⟨ht,t1⟩<;>(
    go_enter func122,ntmps122;go_wp2_with (go_at_call 156;refine(Ve _ _).mono ?_;rintro e w1 ⟨rfl,rfl⟩;rw[ht]);go_ret;exact⟨rfl,xE⟩)
  have d9:decide ((ns.length:Int)<1)=false:=by simp;omega
  have d10:decide ((16:Int)<(ns.length:Int))=false:=by simp;omega
  have d11:(op==7)=true:=by simpa using h3
  have d12:decide ((1:Int)<(ns.length:Int))=true:=by simp;omega
  clear h1 h2 h3 h;rcases T with⟨ht,t1,t2⟩ | ⟨ht,t1⟩<;>(
   go_enter func122,ntmps122;go_wp2_with (go_at_call 156;refine(Ve _ _).mono ?_;rintro e w1 ⟨rfl,rfl⟩;rw[ht]);go_ret;exact⟨rfl,xE⟩)
 rw[hp];clear hp;have d9:decide ((ns.length:Int)<1)=false:=by simp;omega
 have d10:decide ((16:Int)<(ns.length:Int))=false:=by simp;omega
 have Q:((op==7)=false)∨((op==7)=true∧decide ((1:Int)<(ns.length:Int))=false):=by
  rcases hq with h | ⟨h,h'⟩
  ·exact .inl (by simpa using h)
  exact .inr ⟨by simpa using h,by simp;omega⟩
 clear hq l1 l2;cases hs:srt ns with
 | false =>
  rcases T with⟨ht,t1,t2⟩ | ⟨ht,t1⟩<;>rcases Q with q1 | ⟨q1,q2⟩<;>(
   go_enter func122,ntmps122;go_wp2_with (go_at_call 156;refine(Ve _ _).mono ?_;rintro e w1 ⟨rfl,rfl⟩;rw[ht]);refine(Pn _ ns _ Hn.o).mono ?_;rintro e w1 ⟨rfl,hx⟩;rw[hs];have Hx:=Y4 hx;clear hx;go_wp2_with fail;go_ret;exact⟨rfl,Hx.o⟩)
 | true =>
  rcases T with⟨ht,t1,t2⟩ | ⟨ht,t1⟩<;>rcases Q with q1 | ⟨q1,q2⟩<;>(
   go_enter func122,ntmps122;go_wp2_with (go_at_call 156;refine(Ve _ _).mono ?_;rintro e w1 ⟨rfl,rfl⟩;rw[ht]);refine(Pn _ ns _ Hn.o).mono ?_;rintro e w1 ⟨rfl,hx⟩;rw[hs];have Hx:=Y4 hx;have Hn1:=Y4 (Hn.o.ext hx);clear hx;go_wp2_with fail;refine(Si _ ns _ Hn1.o).mono ?_;rintro e w2 ⟨rfl,hx2⟩;have Hx2:=Y4 (Hx.o.trans hx2);clear hx2;go_wp2_with fail;go_ret;exact⟨by simp,Hx2.o⟩)
open Go.RowKit Go.Sort Go.Shelf
theorem Zzc{S:Nat→Prop}(cl cap client op ttl now:Int)(v:Value)(ns:List Nm)(w:World)(hn:Vw w S v ns) :
 Calls prog 70 #[.agg #[.int .i64 cl,.int .i64 cap],.int .i64 client,.int .i64 op,.int .i64 ttl,v,.int .i64 now] w fun e w'=>e=.returned (.bool (Q1 cl client op ttl now ns))∧Ext w w':=by
 obtain⟨A,c,rfl⟩:=hn.shape;have hlm:=hn.len;unfold maxLen at hlm;have Hn:=Y4 hn;clear hn;rcases Af cl client op ttl now ns with⟨hp,h⟩ | ⟨q1,q2,q3,q4,q5,q6,h⟩
 ·rw[hp];clear hp;rcases h with h1 | ⟨h1,h2⟩ | ⟨h1,h2,h3⟩ | ⟨h1,h2,h3,h4⟩ | ⟨h1,h2,h3,h4,h5⟩ | ⟨h1,h2,h3,h4,h5,h6⟩
  ·have d1:decide (client<0)=true:=by simpa using h1
   go_enter func70,ntmps70;go_wp2_with fail;go_ret;exact⟨rfl,xE⟩
  ·have d1:decide (client<0)=false:=by simpa using h1
   have d2:decide (cl≤client)=true:=by simpa using h2
   go_enter func70,ntmps70;go_wp2_with fail;go_ret;exact⟨rfl,xE⟩
  ·have d1:decide (client<0)=false:=by simpa using h1
   have d2:decide (cl≤client)=false:=by simpa using h2
   have d3:decide (op<1)=true:=by simpa using h3
   go_enter func70,ntmps70;go_wp2_with fail;go_ret;exact⟨rfl,xE⟩
  ·have d1:decide (client<0)=false:=by simpa using h1
   have d2:decide (cl≤client)=false:=by simpa using h2
   have d3:decide (op<1)=false:=by simpa using h3
   have d4:decide (7<op)=true:=by simpa using h4
   go_enter func70,ntmps70;go_wp2_with fail;go_ret;exact⟨rfl,xE⟩
  ·have d1:decide (client<0)=false:=by simpa using h1
   have d2:decide (cl≤client)=false:=by simpa using h2
   have d3:decide (op<1)=false:=by simpa using h3
   have d4:decide (7<op)=false:=by simpa using h4
   have d5:decide (now<0)=true:=by simpa using h5
   go_enter func70,ntmps70;go_wp2_with fail;go_ret;exact⟨rfl,xE⟩
  have d1:decide (client<0)=false:=by simpa using h1
  have d2:decide (cl≤client)=false:=by simpa using h2
  have d3:decide (op<1)=false:=by simpa using h3
  have d4:decide (7<op)=false:=by simpa using h4
  have d5:decide (now<0)=false:=by simpa using h5
  have d6:decide (1073741824<now)=true:=by simpa using h6
  go_enter func70,ntmps70;go_wp2_with fail;go_ret;exact⟨rfl,xE⟩
 have d1:decide (client<0)=false:=by simpa using q1
 have d2:decide (cl≤client)=false:=by simpa using q2
 have d3:decide (op<1)=false:=by simpa using q3
 have d4:decide (7<op)=false:=by simpa using q4
 have d5:decide (now<0)=false:=by simpa using q5
 have d6:decide (1073741824<now)=false:=by simpa using q6
 clear q1 q2 q3 q4 q5 q6;rcases h with⟨hp,h⟩ | ⟨h,h'⟩
 ·rw[hp];clear hp;rcases h with⟨ht,h⟩ | ⟨ht,h1,h⟩ | ⟨ht,h⟩
  ·have d7:decide (ttl<1)=true:=by simpa using h
   go_enter func70,ntmps70;go_wp2_with (go_at_call 101;refine(V3 _ _).mono ?_;rintro e w1 ⟨rfl,rfl⟩;rw[ht]);go_ret;exact⟨rfl,xE⟩
  ·have d7:decide (ttl<1)=false:=by simpa using h1
   have d8:decide (1073741824<ttl)=true:=by simpa using h
   go_enter func70,ntmps70;go_wp2_with (go_at_call 101;refine(V3 _ _).mono ?_;rintro e w1 ⟨rfl,rfl⟩;rw[ht]);go_ret;exact⟨rfl,xE⟩
  have d7:(ttl==0)=false:=by simpa using h
  go_enter func70,ntmps70;go_wp2_with (go_at_call 101;refine(V3 _ _).mono ?_;rintro e w1 ⟨rfl,rfl⟩;rw[ht]);go_ret;exact⟨rfl,xE⟩
 have T:∃ b1 b2:Bool,(Wz op=true∧decide (ttl<1)=false∧decide (1073741824<ttl)=false)∨(Wz op=false∧(ttl==0)=true):=by
  refine⟨true,true,?_⟩;rcases h with⟨ht,h1,h2⟩ | ⟨ht,h1⟩
  ·exact .inl ⟨ht,by simpa using h1,by simpa using h2⟩
  exact .inr ⟨ht,by simpa using h1⟩
 clear h;obtain⟨_,_,T⟩:=T;rcases h' with⟨hp,h⟩ | ⟨l1,l2,hq,hp⟩
 ·rw[hp];clear hp;rcases h with h | ⟨h1,h⟩ | ⟨h1,h2,h3,h⟩
  ·have d9:decide ((ns.length:Int)<1)=true:=by simp;omega
   rcases T with⟨ht,t1,t2⟩ | ⟨ht,t1⟩<;>(
    go_enter func70,ntmps70;go_wp2_with (go_at_call 101;refine(V3 _ _).mono ?_;rintro e w1 ⟨rfl,rfl⟩;rw[ht]);go_ret;exact⟨rfl,xE⟩)
  ·have d9:decide ((ns.length:Int)<1)=false:=by simp;omega
   have d10:decide ((16:Int)<(ns.length:Int))=true:=by simp;omega
   rcases T with⟨ht,t1,t2⟩ | ⟨ht,t1⟩<;>(
    go_enter func70,ntmps70;go_wp2_with (go_at_call 101;refine(V3 _ _).mono ?_;rintro e w1 ⟨rfl,rfl⟩;rw[ht]);go_ret;exact⟨rfl,xE⟩)
  have d9:decide ((ns.length:Int)<1)=false:=by simp;omega
  have d10:decide ((16:Int)<(ns.length:Int))=false:=by simp;omega
  have d11:(op==7)=true:=by simpa using h3
  have d12:decide ((1:Int)<(ns.length:Int))=true:=by simp;omega
  clear h1 h2 h3 h;rcases T with⟨ht,t1,t2⟩ | ⟨ht,t1⟩<;>(
   go_enter func70,ntmps70;go_wp2_with (go_at_call 101;refine(V3 _ _).mono ?_;rintro e w1 ⟨rfl,rfl⟩;rw[ht]);go_ret;exact⟨rfl,xE⟩)
 rw[hp];clear hp;have d9:decide ((ns.length:Int)<1)=false:=by simp;omega
 have d10:decide ((16:Int)<(ns.length:Int))=false:=by simp;omega
 have Q:((op==7)=false)∨((op==7)=true∧decide ((1:Int)<(ns.length:Int))=false):=by
  rcases hq with h | ⟨h,h'⟩
  ·exact .inl (by simpa using h)
  exact .inr ⟨by simpa using h,by simp;omega⟩
 clear hq l1 l2;cases hs:srt ns with
 | false =>
  rcases T with⟨ht,t1,t2⟩ | ⟨ht,t1⟩<;>rcases Q with q1 | ⟨q1,q2⟩<;>(
   go_enter func70,ntmps70;go_wp2_with (first|(go_at_call 101;refine(V3 _ _).mono ?_;rintro e w1 ⟨rfl,rfl⟩;rw[ht])|(go_at_call 82;refine(Mf _ ns _ (Hn.o.ext xE)).mono ?_;rintro e w1 ⟨rfl,hx⟩;rw[hs];have Hx:=Y4 ((show Ext w _ from xE).trans hx);clear hx));go_ret;exact⟨rfl,Hx.o⟩)
 | true =>
  rcases T with⟨ht,t1,t2⟩ | ⟨ht,t1⟩<;>rcases Q with q1 | ⟨q1,q2⟩<;>(
   go_enter func70,ntmps70;go_wp2_with (first|(go_at_call 101;refine(V3 _ _).mono ?_;rintro e w1 ⟨rfl,rfl⟩;rw[ht])|(go_at_call 82;refine(Mf _ ns _ (Hn.o.ext xE)).mono ?_;rintro e w1 ⟨rfl,hx⟩;rw[hs];have Hx:=Y4 ((show Ext w _ from xE).trans hx);clear hx));go_loopw [82] (fun o wr=>∃ k:Nat,k≤ns.length∧o=.int .i64 (k:Int)∧(ns.take k).all Q7=true∧Ext w wr) (fun o _=>ns.length-(intOf o).toNat);case atStart=>exact⟨0,by omega,rfl,by simp,Hx.o⟩
   clear Hx;obtain⟨k,hk,rfl,hg,hx⟩:=hrel;have Hg:=Y4 hg;have Hx:=Y4 hx;clear hg hx;by_cases hlt:k<ns.length
   ·have hd:decide ((k:Int)<(ns.length:Int))=true:=by simpa using hlt
    obtain⟨g,o,c',hv,p1,p2,_,b1,hcell⟩:=(Hn.o.ext Hx.o).get hlt;simp only[Ye,Zjj]at hv;obtain⟨rfl,rfl⟩:=hv;obtain⟨n,hnk⟩:∃ n,ns[k]?=some n:=⟨ns[k],by simp[hlt]⟩;obtain⟨x1,x2,x3⟩:=hcell _ _ hnk;have i0:(0:Int)≤(k:Int):=by omega
    have i1:(k:Int)<(ns.length:Int):=by omega
    have Hnk:=Y4 hnk;clear hcell hnk;rcases O0 n with⟨e1,e2,e3,hgn⟩ | ⟨e2,e3,e1,e4,hgn⟩ | ⟨e2,e3,e1,e4,e5,hgn⟩
    ·have g1:decide ((n.a.size:Int)<1)=true:=by simp;omega
     have Hgn:=Y4 hgn;clear hgn e1 e2;go_wp2_with fail;go_ret;exact⟨by rw[Zzm Hnk.o Hgn.o];rfl,Hx.o.trans xE⟩
    ·have g1:decide ((n.a.size:Int)<1)=false:=by simp;omega
     have Hgn:=Y4 hgn;clear hgn e1 e2;go_wp2_with fail;go_ret;exact⟨by rw[Zzm Hnk.o Hgn.o];rfl,Hx.o.trans xE⟩
    have g1:decide ((n.a.size:Int)<1)=false:=by simp;omega
    have Hgn:=Y4 hgn;clear hgn e1 e2;go_wp2_with fail;go_roundw;case rel=>exact⟨k+1,by omega,by go_num,Zyo Hg.o Hnk.o Hgn.o,Hx.o.trans xE⟩
    simp[intOf];omega
   have hd:decide ((k:Int)<(ns.length:Int))=false:=by simp;omega
   go_wp2_with fail;go_ret;have:=Hg.o;rw[Zm (by omega)]at this;exact⟨by rw[this];rfl,Hx.o⟩)
