/- Lemmas of this claim: LastQ. Conditions: as named. -/
import Derived.Test.YtnbclgbicnpmnaaGreatA02
namespace Go.Proofs.YtnbclgbicnpmnaaGreat
open Go.RowKit Go.Sort
set_option maxHeartbeats 0
set_option maxRecDepth 100000
set_option linter.all false
section
theorem Pd{P:Program}{md:Region.Mode}{ops:Array Oper}{Q:Exit→Act→World→Prop}:∀ (fuel:Nat) (listed:Array Bool) (a:Act) (w:World),wpAny P md ops Q fuel listed a w→wpAnyH P md ops Q (fun _=>True) fuel listed a w
 | 0,_,_,_,h=>h
 | fuel+1,_,_,_,h=>⟨h.1,fun i hi=>Zi2 (fun a' w' h'=>⟨trivial,Pd fuel _ a' w' h'⟩) (h.2 i hi)⟩
theorem Zzx{P:Program}{md:Region.Mode}{ops:Array Oper}{C:World→Prop}{Q:Act→Prop}(hs:Region.noSelect ops=true):∀ (l:List Oper) (k:Nat) (listed:Array Bool) (a:Act),(∀ j,j<l.length→l[j]?=ops[k+j]?) →
 Region.lexFrom md ops l.length k listed=true→wpQuiet P ops C Q l a→wpAnyQ P md ops C Q l.length listed a
 | [],_,_,_,_,hB,h=>⟨by simpa[Region.lexFrom]using hB,h⟩
 | o::l,k,listed,a,hl,hB,h=>by
  have h0:ops[k]?=some o:=by simpa using(hl 0 (by simp)).symm
  simp only[Zl,Region.lexFrom,Zlp]at hB;obtain⟨⟨hr,hf⟩,hB'⟩:=hB;have hst:qOp P ops C k (wpQuiet P ops C Q l) a:=by unfold qOp;simp only[h0];exact h
  obtain⟨v,hy,hK⟩:=yieldsIn_of_qOp h0 hst;exact wpAnyQ_first h0 (Region.noSelect_spec hs) l.length listed a (Region.free_spec h0 hf) (by simpa using hr) hy
   (Zzx hs l (k+1) _ _ (fun j hj=>by have:=hl (j+1) (by simpa using hj);simpa[Zkx,Nat.add_comm 1 j]using this) hB' hK)
def Ez(ops:Array Oper):Nat→Nat→Nat→Bool
 | 0,_,_=>false
 | f+1,j,i=>match ops[j]? with
  | some o=>o.after.any fun e=>Region.binds .any e&&(e.on==i||Ez ops f e.on i)
  | none=>false
def Zx4(ops:Array Oper)(k:Nat):Bool :=
 (List.range ops.size).all fun j=>((ops[j]?).map fun o=>(o.after.all fun e=>!Region.binds .any e||decide (e.on<j))&&(decide (j<k)||(((List.range k).all fun i=>Ez ops 7 j i)&&(j==k||o.after.any fun e=>Region.binds .any e&&e.on==j-1)))).getD true
def Closed(ops:Array Oper)(listed:Array Bool):Prop:=∀ j o,ops[j]?=some o→listed.getD j true=true→∀ e∈o.after,Region.binds .any e=true→listed.getD e.on true=true
def Ui(listed:Array Bool)(k:Nat):Array Bool:=listed.mapIdx fun j b=>b||decide (k≤j)
def Jw(P:Program)(ops:Array Oper)(Q:Exit→Act→World→Prop)(k:Nat):Exit→Act→World→Prop
 | .normal,a,w=>wpList P ops Q (ops.toList.drop k) a w
 | e,a,w=>Q e a w
section
variable {P:Program} {ops:Array Oper} {Q:Exit→Act→World→Prop} {S:World→Prop} {k:Nat}
theorem I9{o:Oper}{a:Act}{w:World}{K:Act→World→Prop}(h:o.wp P a w K (Jw P ops Q k)):o.wp P a w K Q:=by
 unfold Oper.wp at *;generalize (execOp a.eval o).run P w=r at *;cases r with
 | ok n w' =>
  cases n<;>simp only[Oper.upon]at h⊢ <;>
   first
    | exact h
    | exact Zkf h (fun e w'' he=>by
     cases e with
     | returned v=>exact he
     | panicked c=>exact he
     | outgrown=>obtain⟨a,w,hq⟩:=he;exact⟨a,w,hq⟩)
    | exact Rows.mono h (fun _ _ he=>he)
 | halt x w'=>cases x<;>simp only[Oper.upon]at h⊢<;>exact h
theorem Pn{i:Nat}{a:Act}{w:World}{K:Act→World→Prop}(h:wpOp P ops (Jw P ops Q k) i K a w):wpOp P ops Q i K a w:=by
 unfold wpOp at *;split
 ·simpa[*]using h
 rename_i o ho;simp only[ho]at h;split
 ·rename_i hw;simp only[hw,Zi7]at h;rcases h with h | ⟨h1,a',w',h2⟩
  ·exact .inl (I9 h)
  exact .inr ⟨h1,a',w',h2⟩
 rename_i hw;simp only[hw]at h;exact h
theorem Gg{listed:Array Bool}{j:Nat}{d:Bool}:(Ui listed k).getD j d=if j<listed.size then listed.getD j d||decide (k≤j)else d:=by
 unfold Ui;simp only[Zlz,Array.getElem?_mapIdx];by_cases h:j<listed.size
 ·simp[h]
 simp[h]
theorem Zx5{listed:Array Bool}{i:Nat}:Ui (listed.setIfInBounds i true) k=(Ui listed k).setIfInBounds i true:=by
 unfold Ui;apply Array.ext_getElem?;intro j;simp only[Array.getElem?_mapIdx,Zj8,Array.size_mapIdx];by_cases h:i=j
 ·subst h;by_cases h2:i<listed.size<;>simp[h2]
 simp[h]
theorem Dl{listed:Array Bool}(hc:Closed ops listed)(b1:∀ j o,ops[j]?=some o→∀ e∈o.after,Region.binds .any e=true→e.on<j)(hs:listed.size=ops.size):∀ (f:Nat) {j i:Nat} {o:Oper},Ez ops f j i=true→ops[j]?=some o→(∀ e∈o.after,Region.binds .any e=true→listed.getD e.on false=true)→listed.getD i false=true
 | 0,_,_,_,h,_,_=>by simp[Ez]at h
 | f+1,j,i,o,h,ho,hl=>by
  unfold Ez at h;rw[ho]at h;simp only[Zis]at h;obtain⟨e,he,h1⟩:=h;simp only[Zlp,Zk4,Zi3]at h1;obtain⟨hb,h1⟩:=h1;have h2:=hl e he hb;rcases h1 with h1|h1
  ·rw[← h1];exact h2
  cases f with
  | zero=>simp[Ez]at h1
  | succ f =>
   obtain⟨o2,ho2⟩:∃ o2,ops[e.on]?=some o2:=by
    cases h3:ops[e.on]? with
    | some o2=>exact⟨o2,rfl⟩
    | none=>unfold Ez at h1;rw[h3]at h1;simp at h1
   refine Dl hc b1 hs (f+1) h1 ho2 fun e2 he2 hb2=>?_
   have h3:listed.getD e.on true=true:=by
    simp only[Zlz]at h2⊢;cases h4:listed[e.on]? with
    | none=>rfl
    | some b=>rw[h4]at h2;exact h2
   have h5:=hc e.on o2 ho2 h3 e2 he2 hb2;simp only[Zlz]at h5 h2⊢;cases h4:listed[e2.on]? with
   | some b=>rw[h4]at h5;exact h5
   | none =>
    have h6:=b1 e.on o2 ho2 e2 he2 hb2;have h7:=(Zm3.1 ho2).1;rw[Zm9 (by omega)]at h4;simp at h4
theorem Closed.set{listed:Array Bool}{i:Nat}(hc:Closed ops listed)(hi:i∈Region.ready .any ops listed)(b1:∀ j o,ops[j]?=some o→∀ e∈o.after,Region.binds .any e=true→e.on<j)(hs:listed.size=ops.size):Closed ops (listed.setIfInBounds i true):=by
 obtain⟨i1,i2,oi,i3,i4⟩:=mem_ready.1 hi;intro j o ho hl e he hb;rw[Qa];by_cases e1:i=e.on
 ·rw[Zm4 ⟨e1,by rw[hs,← e1];exact i1⟩]
 rw[Zm2 fun h=>e1 h.1];rw[Qa]at hl;by_cases e2:i=j
 ·subst e2;rw[i3]at ho;obtain rfl:=Zm6 ho;have h5:=i4 e he hb;have h6:=b1 i _ i3 e he hb;simp only[Zlz]at h5⊢;rw[Zm9 (by omega)]at h5⊢;exact h5
 rw[Zm2 fun h=>e2 h.1]at hl;exact hc j o ho hl e he hb
theorem N9(hB:Zx4 ops k=true):(∀ j o,ops[j]?=some o→∀ e∈o.after,Region.binds .any e=true→e.on<j)∧(∀ j,k≤j→j<ops.size→∀ i,i<k→Ez ops 7 j i=true)∧∀ j o,k<j→ops[j]?=some o→∃ e∈o.after,Region.binds .any e=true∧e.on=j-1:=by
 have key:∀ j o,ops[j]?=some o→(o.after.all fun e=>!Region.binds .any e||decide (e.on<j))=true∧(decide (j<k)||(((List.range k).all fun i=>Ez ops 7 j i)&&(j==k||o.after.any fun e=>Region.binds .any e&&e.on==j-1)))=true:=fun j o ho=>by
  simp only[Zx4,Zjn,Zkh]at hB;have h:=hB j (Zm3.1 ho).1;rw[ho]at h;simpa only[Zk3,Zk8,Zlp]using h
 refine⟨fun j o ho e he hb=>?_,fun j hj hjn i hi=>?_,fun j o hj ho=>?_⟩
 ·have h:=(key j o ho).1;rw[Zkr]at h;have:=h e he;rw[hb]at this;simpa using this
 ·have h:=(key j _ (Zm9 hjn)).2;rw[Yg (by omega),Zi8,Zlp,Zjn]at h;exact h.1 i (Zkh.2 hi)
 have h:=(key j o ho).2;rw[Yg (by omega),Zi8,Zlp,show(j==k)=false by simp;omega,Zi8]at h;have:=h.2;rw[Zis]at this;obtain⟨e,he,h1⟩:=this;simp only[Zlp,Zi3]at h1;exact⟨e,he,h1⟩
theorem Zwa(hB:Zx4 ops k=true):∀ (d t f:Nat) (listed:Array Bool) (a:Act) (w:World),t+d=ops.size→k≤t→d≤f→listed.size=ops.size→(∀ j,j<ops.size→listed.getD j true=decide (j<t))→wpList P ops Q (ops.toList.drop t) a w→wpAny P .any ops Q f listed a w:=by
 obtain⟨b1,b2,b3⟩:=N9 hB;intro d
 induction d with
 | zero =>
  intro t f listed a w ht hk hf hs hl h;have hr:Region.ready .any ops listed=[]:=by
   rw[Zkl];intro j hj;obtain⟨j1,j2,_⟩:=mem_ready.1 hj;rw[hl j j1]at j2;simp at j2;omega
  rw[List.drop_eq_nil_of_le (by simp;omega)]at h;cases f with
  | zero=>exact⟨hr,h⟩
  | succ f=>exact⟨fun _=>h,by rw[hr];simp⟩
 | succ d ih =>
  intro t f listed a w ht hk hf hs hl h;obtain⟨f,rfl⟩:∃ g,f=g+1:=⟨f-1,by omega⟩;have htn:t<ops.size:=by omega
  have ho:ops[t]?=some ops[t]:=Zm9 htn;have hin:t∈Region.ready .any ops listed:=mem_ready.2 ⟨htn,by rw[hl t htn];simp,ops[t],ho,fun e he hb=>by
   have h1:=b1 t _ ho e he hb;have h2:=hl e.on (by omega);rw[Yf h1]at h2;simp only[Zlz]at h2⊢;rw[Zm9 (by omega)]at h2⊢;exact h2⟩
  refine⟨fun h0=>by rw[h0]at hin;simp at hin,fun i hi=>?_⟩;obtain⟨i1,i2,o,i3,i4⟩:=mem_ready.1 hi;rw[hl i i1]at i2;have hit:t≤i:=by simpa using i2
  have:i=t:=by
   rcases Zl9 t i with hlt|hge
   ·obtain⟨e,he,hb,hon⟩:=b3 i o (by omega) i3;have h5:=i4 e he hb;have h6:=hl (i-1) (by omega);rw[Yg (by omega)]at h6;rw[hon]at h5;simp only[Zlz]at h5 h6;rw[Zm9 (by omega)]at h5 h6;simp at h5 h6;rw[h5]at h6;simp at h6
   omega
  subst this;have hdrop:ops.toList.drop i=ops[i]::ops.toList.drop (i+1):=by
   rw[Zjp (by simpa using htn)];simp
  rw[hdrop]at h;have hK:∀ a' w',wpList P ops Q (ops.toList.drop (i+1)) a' w'→wpAny P .any ops Q f (listed.setIfInBounds i true) a' w':=fun a' w' h' =>
   ih (i+1) f _ a' w' (by omega) (by omega) (by omega) (by simpa using hs) (fun j hj=>by
    rw[Qa];by_cases e:i=j
    ·subst e;rw[Zm4 ⟨rfl,by omega⟩];simp
    rw[Zm2 (fun h=>e h.1),hl j hj];by_cases h1:j<i
    ·rw[Yf h1,Yf (by omega)]
    rw[Yg h1,Yg (by omega)]) h'
  have h2:wpOp P ops Q i (wpList P ops Q (ops.toList.drop (i+1))) a w:=by
   unfold wpOp;rw[ho];exact h
  exact Zi2 hK h2
theorem Zx9(hB:Zx4 ops k=true)(hk:k≤ops.size):∀ (fuel:Nat) (listed:Array Bool) (a:Act) (w:World),listed.size=ops.size→(∀ j,k≤j→j<ops.size→listed.getD j true=false)→Closed ops listed →
 wpAnyH P .any ops (Jw P ops Q k) S fuel (Ui listed k) a w→wpAny P .any ops Q (fuel+(ops.size-k)) listed a w:=by
 obtain⟨b1,b2,b3⟩:=N9 hB;have all:∀ (listed:Array Bool) (a:Act) (w:World) (f:Nat),listed.size=ops.size→(∀ j,k≤j→j<ops.size→listed.getD j true=false)→(∀ j,j<k→listed.getD j true=true)→ops.size-k≤f→wpList P ops Q (ops.toList.drop k) a w→wpAny P .any ops Q f listed a w:=fun listed a w f hs hn hy hf h =>
  Zwa hB (ops.size-k) k f listed a w (by omega) (Yn _) hf hs (fun j hj=>by
   by_cases h1:j<k
   ·rw[hy j h1,Yf h1]
   rw[hn j (by omega) hj,Yg h1]) h
 have least:∀ listed:Array Bool,listed.size=ops.size→∀ j,j<k→listed.getD j true=false→∃ i,i<k∧i∈Region.ready .any ops listed:=fun listed hs j=>by
  induction j using Nat.strongRecOn with
  | _ j ih =>
   intro hj hf;by_cases hex:∃ i,i<j∧listed.getD i true=false
   ·obtain⟨i,h1,h2⟩:=hex;exact ih i h1 (by omega) h2
   have ho:ops[j]?=some ops[j]:=Zm9 (by omega);refine⟨j,hj,mem_ready.2 ⟨by omega,hf,ops[j],ho,fun e he hb=>?_⟩⟩;have h1:=b1 j _ ho e he hb;have h2:listed.getD e.on true=true:=by
    cases h3:listed.getD e.on true with
    | true=>rfl
    | false=>exact absurd ⟨e.on,h1,h3⟩ hex
   simp only[Zlz]at h2⊢;rw[Zm9 (by omega)]at h2⊢;exact h2
 have up:∀ (listed:Array Bool) i,listed.size=ops.size→i<k→i∈Region.ready .any ops listed→i∈Region.ready .any ops (Ui listed k):=fun listed i hs hik hi=>by
  obtain⟨h1,h2,o,h3,h4⟩:=mem_ready.1 hi;refine mem_ready.2 ⟨h1,by rw[Gg,Zm4 (by omega),h2,Yg (by omega)];rfl,o,h3,fun e he hb=>?_⟩;rw[Gg,Zm4 (by have:=b1 i o h3 e he hb;omega),h4 e he hb];rfl
 intro fuel
 induction fuel with
 | zero =>
  rintro listed a w hs hn hc ⟨hr,hq⟩;refine all listed a w _ hs hn (fun j hj=>?_) (by omega) hq;cases h:listed.getD j true with
  | true=>rfl
  | false =>
   obtain⟨i,h1,h2⟩:=least listed hs j hj h;have:=up listed i hs h1 h2;rw[hr]at this;simp at this
 | succ fuel ih =>
  rintro listed a w hs hn hc ⟨hr,hq⟩;by_cases hex:∃ j,j<k∧listed.getD j true=false
  ·obtain⟨j,hj,hf⟩:=hex;obtain⟨i0,h1,h2⟩:=least listed hs j hj hf;rw[show fuel+1+(ops.size-k)=(fuel+(ops.size-k))+1 by omega];refine⟨fun h0=>by rw[h0]at h2;simp at h2,fun i hi=>?_⟩;have hik:i<k:=by
    rcases Zl9 i k with h|h
    ·exact h
    obtain⟨i1,i2,o,i3,i4⟩:=mem_ready.1 hi;have h5:=Dl hc b1 hs _ (b2 i h (by omega) j hj) i3 i4;simp only[Zlz]at h5 hf;rw[Zm9 (by omega)]at h5 hf;simp at h5 hf;rw[h5]at hf;simp at hf
   have h3:=hq i (up listed i hs hik hi);refine Zi2 (fun a' w' h=>?_) (Pn h3);refine ih (listed.setIfInBounds i true) a' w' (by simpa using hs) (fun j' hj' hj2=>by rw[Qa,Zm2 (fun h=>by omega)];exact hn j' hj' hj2) (hc.set hi (fun j o ho e he hb=>b1 j o ho e he hb) hs) ?_;rw[Zx5];exact h.2
  have hy:∀ j,j<k→listed.getD j true=true:=fun j hj=>by
   cases h:listed.getD j true with
   | true=>rfl
   | false=>exact absurd ⟨j,hj,h⟩ hex
  refine all listed a w _ hs hn hy (by omega) (hr ?_);rw[Zkl];intro j hj;obtain⟨j1,j2,_⟩:=mem_ready.1 hj;rw[Gg,Zm4 (by omega)]at j2;by_cases h1:j<k
  ·rw[hy j h1]at j2;simp at j2
  rw[Yf (by omega)]at j2;simp at j2
end
theorem Qz{P:Program}{id:Nat}{Q:Exit→Act→World→Prop}{S:World→Prop}{a:Act}{w:World}{l:List Oper}(k n:Nat)(hn:l.length=n)(hk:k≤n)(hm:P.follows .mixedOrders=true)(hB:Zx4 l.toArray k=true)
 (h:wpAnyH P .any l.toArray (Jw P l.toArray Q k) S k (Ui (Array.replicate n false) k) a w.drew):(Code.region id l.toArray true).wp P Q a w:=by
 refine wp_region_any hm ?_;have hsz:l.toArray.size=n:=by simpa using hn
 have:=Zx9 (P:=P) (Q:=Q) (S:=S) hB (by omega) k (Array.replicate n false) a w.drew (by simp[hn]) (fun j _ hj=>by simp at hj;simp[Zlz,hn▸hj]) (fun j o ho hl=>by
  have hjn:=(Zm3.1 ho).1;rw[hsz]at hjn;simp[Zlz,hjn]at hl) h
 rw[hsz]at this⊢;rw[show k+(n-k)=n by omega]at this;exact this
theorem Xf{P:Program}{id:Nat}{Q:Exit→Act→World→Prop}{a:Act}{w:World}{l:List Oper}(k n:Nat)(hn:l.length=n)(hk:k≤n)(hm:P.follows .mixedOrders=true)(hB:Zx4 l.toArray k=true)(hL:(Region.noSelect l.toArray&&Region.lexFrom .any l.toArray k 0 (Ui (Array.replicate n false) k))=true)
 (h:wpQuiet P l.toArray (fun w'=>∃ p:Wf,w'=later w p.n p.os) (fun a'=>∀ w',Ext w w'→wpList P l.toArray Q (l.drop k) a' w') (l.take k) a):(Code.region id l.toArray true).wp P Q a w:=by
 rw[Zlp]at hL;refine Qz (S:=fun _=>True) k n hn hk hm hB (Pd _ _ _ _ ?_);have ht:(l.take k).length=k:=by simp;omega
 have hq:wpAnyQ P .any l.toArray (fun w'=>∃ p:Wf,w'=later w p.n p.os) (fun a'=>∀ w',Ext w w'→wpList P l.toArray Q (l.drop k) a' w') k (Ui (Array.replicate n false) k) a:=by
  have:=Zzx (P:=P) (md:=.any) hL.1 (l.take k) 0 (Ui (Array.replicate n false) k) a (fun j hj=>by rw[ht]at hj;simp[hj]) (by rw[ht];exact hL.2) h
  rwa [ht]at this
 refine wpAny_of_quiet (C:=fun w'=>∃ p:Wf,w'=later w p.n p.os) (Q:=fun a'=>∀ w',Ext w w'→wpList P l.toArray Q (l.drop k) a' w') (fun a' w' ⟨p,hp⟩ hq=>?_) _ _ _ _ ⟨⟨w.drawn+1,#[]⟩,by rw[Kz];rfl⟩ hq;exact hq w' ⟨p.n,p.os,hp⟩
section
variable {P:Program} {ops:Array Oper} {Q:Exit→Act→World→Prop} {S:World→Prop}
def Uh(P:Program)(ops:Array Oper)(S:World→Prop)(Q:Act→Prop):List Oper→Act→Prop
 | [],a=>Q a
 | o::l,a=>∃ v,YieldsIf P ops S o v a∧Uh P ops S Q l (a.put o.dst v)
theorem Xq{Q:Act→Prop}{a:Act}(h:Q a):Uh P ops S Q [] a:=h
theorem Xt{Q:Act→Prop}{o:Oper}{l:List Oper}{a:Act}{v:Value}(hw:Region.wanted o (yielded ops a.tmps)=true)(hv:∀ w,S w→(execOp a.eval o).run P w=.ok (.value v) w)(h:Uh P ops S Q l (a.put o.dst v)):Uh P ops S Q (o::l) a :=
 ⟨v,.inl ⟨hw,hv⟩,h⟩
theorem Vb{Q:Act→Prop}{o:Oper}{l:List Oper}{a:Act}(hw:Region.wanted o (yielded ops a.tmps)=false)(h:Uh P ops S Q l (a.put o.dst undef)):Uh P ops S Q (o::l) a:=⟨undef,.inr ⟨hw,rfl⟩,h⟩
def Zzg:Array Bool→List Nat→Array Bool
 | s,[]=>s
 | s,i::r=>Zzg (s.setIfInBounds i true) r
def Sq(ops:Array Oper):Array Bool→List Nat→Bool
 | _,[]=>true
 | s,i::r=>((Region.ready .any ops s).contains i&&Region.free .any ops s i&&(ops[i]?).isSome)&&Sq ops (s.setIfInBounds i true) r
theorem Mh(hs:Region.noSelect ops=true)(hQ:∀ c a d v w,Q (.panic c) (a.put d v) w→Q (.panic c) a w){w:World}(hS:S w)(k:Nat):∀ (idx:List Nat) (listed:Array Bool) (a:Act),Sq ops listed idx=true →
 Uh P ops S (fun a'=>wpAnyH P .any ops Q S k (Zzg listed idx) a' w) (idx.filterMap (ops[·]?)) a→wpAnyH P .any ops Q S (k+idx.length) listed a w
 | [],_,_,_,h=>h
 | i::r,listed,a,hB,h=>by
  simp only[Sq,Zlp]at hB;obtain⟨⟨⟨h1,h2⟩,h3⟩,h4⟩:=hB;obtain⟨o,ho⟩:=Zjk.1 h3;rw[List.filterMap_cons_some ho]at h;obtain⟨v,hy,h⟩:=h;exact Zkv (fuel:=k+r.length) ho hs h2 h1 (fun c a' w' hq=>hQ c a' _ _ w' hq) hy hS (Mh hs hQ hS k r _ _ h4 h)
theorem Xv{w:World}{fuel:Nat}{listed:Array Bool}{a:Act}(idx:List Nat)(k:Nat)(hf:fuel=k+idx.length)(hs:Region.noSelect ops=true)(hB:Sq ops listed idx=true)(hQ:∀ c a d v w,Q (.panic c) (a.put d v) w→Q (.panic c) a w)(hS:S w)
 (h:Uh P ops S (fun a'=>wpAnyH P .any ops Q S k (Zzg listed idx) a' w) (idx.filterMap (ops[·]?)) a):wpAnyH P .any ops Q S fuel listed a w:=by
 subst hf;exact Mh hs hQ hS k idx listed a hB h
def Lat(w:World):World→Prop:=fun w'=>∃ p:Wf,w'=later w p.n p.os
theorem Lat.of{w w':World}(h:Ext w w'):Lat w w':=by
 obtain⟨d,os,rfl⟩:=h;exact⟨⟨d,os⟩,rfl⟩
theorem Lat.drew{w:World}:Lat w w.drew:=Lat.of (Yl w).drew
theorem Zxm{α:Type}(l:List α){k:Nat}(hk:k≤l.length):(List.range k).filterMap (l.toArray[·]?)=l.take k:=by
 induction k with
 | zero=>simp
 | succ k ih =>
  rw[Zjg,List.filterMap_append,ih (by omega),Za];simp only[Z5,Zz (show k<l.length by omega),Z3,Z4,Zjf]
theorem Kk{l:List Oper}{w:World}{fuel:Nat}{listed:Array Bool}{a:Act}(k m:Nat)(hf:fuel=m+k)(hk:k≤l.length)(hs:Region.noSelect l.toArray=true)(hB:Sq l.toArray listed (List.range k)=true)(hQ:∀ c a d v w,Q (.panic c) (a.put d v) w→Q (.panic c) a w)(hS:S w)
 (h:Uh P l.toArray S (fun a'=>wpAnyH P .any l.toArray Q S m (Zzg listed (List.range k)) a' w) (l.take k) a):wpAnyH P .any l.toArray Q S fuel listed a w:=by
 refine Xv (List.range k) m (by rw[Zip];exact hf) hs hB hQ hS ?_;rw[Zxm l hk];exact h
end
end
end Go.Proofs.YtnbclgbicnpmnaaGreat
