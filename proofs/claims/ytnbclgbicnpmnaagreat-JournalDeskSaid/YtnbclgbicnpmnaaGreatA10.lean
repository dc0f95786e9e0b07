/- Lemmas of this claim: LastQ, ModH. Conditions: as named. -/
import Derived.Test.YtnbclgbicnpmnaaGreatA08
namespace Go.Proofs.YtnbclgbicnpmnaaGreat
open Go.RowKit Go.Sort Tryz
set_option maxHeartbeats 0
set_option maxRecDepth 100000
set_option linter.all false
section
theorem Tb{P:Program}{md:Region.Mode}{ops:Array Oper}{Q:Exit→Act→World→Prop}:∀ (fuel:Nat) (listed:Array Bool) (a:Act) (w:World),wpAny P md ops Q fuel listed a w→wpAnyH P md ops Q (fun _=>True) fuel listed a w
 | 0,_,_,_,h=>h
 | fuel+1,_,_,_,h=>⟨h.1,fun i hi=>Zcd (fun a' w' h'=>⟨trivial,Tb fuel _ a' w' h'⟩) (h.2 i hi)⟩
theorem Zwm{P:Program}{md:Region.Mode}{ops:Array Oper}{C:World→Prop}{Q:Act→Prop}(hs:Region.noSelect ops=true):∀ (l:List Oper) (k:Nat) (listed:Array Bool) (a:Act),(∀ j,j<l.length→l[j]?=ops[k+j]?) →
 Region.lexFrom md ops l.length k listed=true→wpQuiet P ops C Q l a→wpAnyQ P md ops C Q l.length listed a
 | [],_,_,_,_,hB,h=>⟨by simpa[Region.lexFrom]using hB,h⟩
 | o::l,k,listed,a,hl,hB,h=>by
  have h0:ops[k]?=some o:=by simpa using(hl 0 (by simp)).symm
  simp only[Zl,Region.lexFrom,Zgc]at hB;obtain⟨⟨hr,hf⟩,hB'⟩:=hB;have hst:qOp P ops C k (wpQuiet P ops C Q l) a:=by unfold qOp;simp only[h0];exact h
  obtain⟨v,hy,hK⟩:=yieldsIn_of_qOp h0 hst;exact wpAnyQ_first h0 (Region.noSelect_spec hs) l.length listed a (Region.free_spec h0 hf) (by simpa using hr) hy
   (Zwm hs l (k+1) _ _ (fun j hj=>by have:=hl (j+1) (by simpa using hj);simpa[Zfh,Nat.add_comm 1 j]using this) hB' hK)
def De(ops:Array Oper):Nat→Nat→Nat→Bool
 | 0,_,_=>false
 | f+1,j,i=>match ops[j]? with
  | some o=>o.after.any fun e=>Region.binds .any e&&(e.on==i||De ops f e.on i)
  | none=>false
def Ztt(ops:Array Oper)(k:Nat):Bool :=
 (List.range ops.size).all fun j=>((ops[j]?).map fun o=>(o.after.all fun e=>!Region.binds .any e||decide (e.on<j))&&(decide (j<k)||(((List.range k).all fun i=>De ops 7 j i)&&(j==k||o.after.any fun e=>Region.binds .any e&&e.on==j-1)))).getD true
def Closed(ops:Array Oper)(listed:Array Bool):Prop:=∀ j o,ops[j]?=some o→listed.getD j true=true→∀ e∈o.after,Region.binds .any e=true→listed.getD e.on true=true
def Bw(listed:Array Bool)(k:Nat):Array Bool:=listed.mapIdx fun j b=>b||decide (k≤j)
def V5(P:Program)(ops:Array Oper)(Q:Exit→Act→World→Prop)(k:Nat):Exit→Act→World→Prop
 | .normal,a,w=>wpList P ops Q (ops.toList.drop k) a w
 | e,a,w=>Q e a w
section
variable {P:Program} {ops:Array Oper} {Q:Exit→Act→World→Prop} {S:World→Prop} {k:Nat}
theorem Zxc{o:Oper}{a:Act}{w:World}{K:Act→World→Prop}(h:o.wp P a w K (V5 P ops Q k)):o.wp P a w K Q:=by
 unfold Oper.wp at *;generalize (execOp a.eval o).run P w=r at *;cases r with
 | ok n w' =>
  cases n<;>simp only[Oper.upon]at h⊢ <;>
   first
    | exact h
    | exact Zc1 h (fun e w'' he=>by
     cases e with
     | returned v=>exact he
     | panicked c=>exact he
     | outgrown=>obtain⟨a,w,hq⟩:=he;exact⟨a,w,hq⟩)
    | exact Rows.mono h (fun _ _ he=>he)
 | halt x w'=>cases x<;>simp only[Oper.upon]at h⊢<;>exact h
theorem Tk{i:Nat}{a:Act}{w:World}{K:Act→World→Prop}(h:wpOp P ops (V5 P ops Q k) i K a w):wpOp P ops Q i K a w:=by
 unfold wpOp at *;split
 ·simpa[*]using h
 rename_i o ho;simp only[ho]at h;split
 ·rename_i hw;simp only[hw,Zc6]at h;rcases h with h | ⟨h1,a',w',h2⟩
  ·exact .inl (Zxc h)
  exact .inr ⟨h1,a',w',h2⟩
 rename_i hw;simp only[hw]at h;exact h
theorem Ep{listed:Array Bool}{j:Nat}{d:Bool}:(Bw listed k).getD j d=if j<listed.size then listed.getD j d||decide (k≤j)else d:=by
 unfold Bw;simp only[Zge,Array.getElem?_mapIdx];by_cases h:j<listed.size
 ·simp[h]
 simp[h]
theorem Zts{listed:Array Bool}{i:Nat}:Bw (listed.setIfInBounds i true) k=(Bw listed k).setIfInBounds i true:=by
 unfold Bw;apply Array.ext_getElem?;intro j;simp only[Array.getElem?_mapIdx,Zd3,Array.size_mapIdx];by_cases h:i=j
 ·subst h;by_cases h2:i<listed.size<;>simp[h2]
 simp[h]
theorem Lu{listed:Array Bool}(hc:Closed ops listed)(b1:∀ j o,ops[j]?=some o→∀ e∈o.after,Region.binds .any e=true→e.on<j)(hs:listed.size=ops.size):∀ (f:Nat) {j i:Nat} {o:Oper},De ops f j i=true→ops[j]?=some o→(∀ e∈o.after,Region.binds .any e=true→listed.getD e.on false=true)→listed.getD i false=true
 | 0,_,_,_,h,_,_=>by simp[De]at h
 | f+1,j,i,o,h,ho,hl=>by
  unfold De at h;rw[ho]at h;simp only[Zcv]at h;obtain⟨e,he,h1⟩:=h;simp only[Zgc,Zei,Zc0]at h1;obtain⟨hb,h1⟩:=h1;have h2:=hl e he hb;rcases h1 with h1|h1
  ·rw[← h1];exact h2
  cases f with
  | zero=>simp[De]at h1
  | succ f =>
   obtain⟨o2,ho2⟩:∃ o2,ops[e.on]?=some o2:=by
    cases h3:ops[e.on]? with
    | some o2=>exact⟨o2,rfl⟩
    | none=>unfold De at h1;rw[h3]at h1;simp at h1
   refine Lu hc b1 hs (f+1) h1 ho2 fun e2 he2 hb2=>?_
   have h3:listed.getD e.on true=true:=by
    simp only[Zge]at h2⊢;cases h4:listed[e.on]? with
    | none=>rfl
    | some b=>rw[h4]at h2;exact h2
   have h5:=hc e.on o2 ho2 h3 e2 he2 hb2;simp only[Zge]at h5 h2⊢;cases h4:listed[e2.on]? with
   | some b=>rw[h4]at h5;exact h5
   | none =>
    have h6:=b1 e.on o2 ho2 e2 he2 hb2;have h7:=(Zgk.1 ho2).1;rw[Zgj (by omega)]at h4;simp at h4
theorem Closed.set{listed:Array Bool}{i:Nat}(hc:Closed ops listed)(hi:i∈Region.ready .any ops listed)(b1:∀ j o,ops[j]?=some o→∀ e∈o.after,Region.binds .any e=true→e.on<j)(hs:listed.size=ops.size):Closed ops (listed.setIfInBounds i true):=by
 obtain⟨i1,i2,oi,i3,i4⟩:=mem_ready.1 hi;intro j o ho hl e he hb;rw[Ki];by_cases e1:i=e.on
 ·rw[Zgn ⟨e1,by rw[hs,← e1];exact i1⟩]
 rw[Zgq fun h=>e1 h.1];rw[Ki]at hl;by_cases e2:i=j
 ·subst e2;rw[i3]at ho;obtain rfl:=Zgm ho;have h5:=i4 e he hb;have h6:=b1 i _ i3 e he hb;simp only[Zge]at h5⊢;rw[Zgj (by omega)]at h5⊢;exact h5
 rw[Zgq fun h=>e2 h.1]at hl;exact hc j o ho hl e he hb
theorem Ra(hB:Ztt ops k=true):(∀ j o,ops[j]?=some o→∀ e∈o.after,Region.binds .any e=true→e.on<j)∧(∀ j,k≤j→j<ops.size→∀ i,i<k→De ops 7 j i=true)∧∀ j o,k<j→ops[j]?=some o→∃ e∈o.after,Region.binds .any e=true∧e.on=j-1:=by
 have key:∀ j o,ops[j]?=some o→(o.after.all fun e=>!Region.binds .any e||decide (e.on<j))=true∧(decide (j<k)||(((List.range k).all fun i=>De ops 7 j i)&&(j==k||o.after.any fun e=>Region.binds .any e&&e.on==j-1)))=true:=fun j o ho=>by
  simp only[Ztt,Zfl,Zf8]at hB;have h:=hB j (Zgk.1 ho).1;rw[ho]at h;simpa only[Zev,Zed,Zgc]using h
 refine⟨fun j o ho e he hb=>?_,fun j hj hjn i hi=>?_,fun j o hj ho=>?_⟩
 ·have h:=(key j o ho).1;rw[Zfa]at h;have:=h e he;rw[hb]at this;simpa using this
 ·have h:=(key j _ (Zgj hjn)).2;rw[Yf (by omega),Zc8,Zgc,Zfl]at h;exact h.1 i (Zf8.2 hi)
 have h:=(key j o ho).2;rw[Yf (by omega),Zc8,Zgc,show(j==k)=false by simp;omega,Zc8]at h;have:=h.2;rw[Zcv]at this;obtain⟨e,he,h1⟩:=this;simp only[Zgc,Zc0]at h1;exact⟨e,he,h1⟩
theorem Zsp(hB:Ztt ops k=true):∀ (d t f:Nat) (listed:Array Bool) (a:Act) (w:World),t+d=ops.size→k≤t→d≤f→listed.size=ops.size→(∀ j,j<ops.size→listed.getD j true=decide (j<t))→wpList P ops Q (ops.toList.drop t) a w→wpAny P .any ops Q f listed a w:=by
 obtain⟨b1,b2,b3⟩:=Ra hB;intro d
 induction d with
 | zero =>
  intro t f listed a w ht hk hf hs hl h;have hr:Region.ready .any ops listed=[]:=by
   rw[Zf3];intro j hj;obtain⟨j1,j2,_⟩:=mem_ready.1 hj;rw[hl j j1]at j2;simp at j2;omega
  rw[List.drop_eq_nil_of_le (by simp;omega)]at h;cases f with
  | zero=>exact⟨hr,h⟩
  | succ f=>exact⟨fun _=>h,by rw[hr];simp⟩
 | succ d ih =>
  intro t f listed a w ht hk hf hs hl h;obtain⟨f,rfl⟩:∃ g,f=g+1:=⟨f-1,by omega⟩;have htn:t<ops.size:=by omega
  have ho:ops[t]?=some ops[t]:=Zgj htn;have hin:t∈Region.ready .any ops listed:=mem_ready.2 ⟨htn,by rw[hl t htn];simp,ops[t],ho,fun e he hb=>by
   have h1:=b1 t _ ho e he hb;have h2:=hl e.on (by omega);rw[Ye h1]at h2;simp only[Zge]at h2⊢;rw[Zgj (by omega)]at h2⊢;exact h2⟩
  refine⟨fun h0=>by rw[h0]at hin;simp at hin,fun i hi=>?_⟩;obtain⟨i1,i2,o,i3,i4⟩:=mem_ready.1 hi;rw[hl i i1]at i2;have hit:t≤i:=by simpa using i2
  have:i=t:=by
   rcases Zff t i with hlt|hge
   ·obtain⟨e,he,hb,hon⟩:=b3 i o (by omega) i3;have h5:=i4 e he hb;have h6:=hl (i-1) (by omega);rw[Yf (by omega)]at h6;rw[hon]at h5;simp only[Zge]at h5 h6;rw[Zgj (by omega)]at h5 h6;simp at h5 h6;rw[h5]at h6;simp at h6
   omega
  subst this;have hdrop:ops.toList.drop i=ops[i]::ops.toList.drop (i+1):=by
   rw[Zep (by simpa using htn)];simp
  rw[hdrop]at h;have hK:∀ a' w',wpList P ops Q (ops.toList.drop (i+1)) a' w'→wpAny P .any ops Q f (listed.setIfInBounds i true) a' w':=fun a' w' h' =>
   ih (i+1) f _ a' w' (by omega) (by omega) (by omega) (by simpa using hs) (fun j hj=>by
    rw[Ki];by_cases e:i=j
    ·subst e;rw[Zgn ⟨rfl,by omega⟩];simp
    rw[Zgq (fun h=>e h.1),hl j hj];by_cases h1:j<i
    ·rw[Ye h1,Ye (by omega)]
    rw[Yf h1,Yf (by omega)]) h'
  have h2:wpOp P ops Q i (wpList P ops Q (ops.toList.drop (i+1))) a w:=by
   unfold wpOp;rw[ho];exact h
  exact Zcd hK h2
theorem Ztq(hB:Ztt ops k=true)(hk:k≤ops.size):∀ (fuel:Nat) (listed:Array Bool) (a:Act) (w:World),listed.size=ops.size→(∀ j,k≤j→j<ops.size→listed.getD j true=false)→Closed ops listed →
 wpAnyH P .any ops (V5 P ops Q k) S fuel (Bw listed k) a w→wpAny P .any ops Q (fuel+(ops.size-k)) listed a w:=by
 obtain⟨b1,b2,b3⟩:=Ra hB;have all:∀ (listed:Array Bool) (a:Act) (w:World) (f:Nat),listed.size=ops.size→(∀ j,k≤j→j<ops.size→listed.getD j true=false)→(∀ j,j<k→listed.getD j true=true)→ops.size-k≤f→wpList P ops Q (ops.toList.drop k) a w→wpAny P .any ops Q f listed a w:=fun listed a w f hs hn hy hf h =>
  Zsp hB (ops.size-k) k f listed a w (by omega) (Ym _) hf hs (fun j hj=>by
   by_cases h1:j<k
   ·rw[hy j h1,Ye h1]
   rw[hn j (by omega) hj,Yf h1]) h
 have least:∀ listed:Array Bool,listed.size=ops.size→∀ j,j<k→listed.getD j true=false→∃ i,i<k∧i∈Region.ready .any ops listed:=fun listed hs j=>by
  induction j using Nat.strongRecOn with
  | _ j ih =>
   intro hj hf;by_cases hex:∃ i,i<j∧listed.getD i true=false
   ·obtain⟨i,h1,h2⟩:=hex;exact ih i h1 (by omega) h2
   have ho:ops[j]?=some ops[j]:=Zgj (by omega);refine⟨j,hj,mem_ready.2 ⟨by omega,hf,ops[j],ho,fun e he hb=>?_⟩⟩;have h1:=b1 j _ ho e he hb;have h2:listed.getD e.on true=true:=by
    cases h3:listed.getD e.on true with
    | true=>rfl
    | false=>exact absurd ⟨e.on,h1,h3⟩ hex
   simp only[Zge]at h2⊢;rw[Zgj (by omega)]at h2⊢;exact h2
 have up:∀ (listed:Array Bool) i,listed.size=ops.size→i<k→i∈Region.ready .any ops listed→i∈Region.ready .any ops (Bw listed k):=fun listed i hs hik hi=>by
  obtain⟨h1,h2,o,h3,h4⟩:=mem_ready.1 hi;refine mem_ready.2 ⟨h1,by rw[Ep,Zgn (by omega),h2,Yf (by omega)];rfl,o,h3,fun e he hb=>?_⟩;rw[Ep,Zgn (by have:=b1 i o h3 e he hb;omega),h4 e he hb];rfl
 intro fuel
 induction fuel with
 | zero =>
  rintro listed a w hs hn hc ⟨hr,hq⟩;refine all listed a w _ hs hn (fun j hj=>?_) (by omega) hq;cases h:listed.getD j true with
  | true=>rfl
  | false =>
   obtain⟨i,h1,h2⟩:=least listed hs j hj h;have:=up listed i hs h1 h2;rw[hr]at this;simp at this
 | succ fuel ih =>
  rintro listed a w hs hn hc ⟨hr,hq⟩;by_cases hex:∃ j,j<k∧listed.getD j true=false
  ·obtain⟨j,hj,hf⟩:=hex;obtain⟨i0,h1,h2⟩:=least listed hs j hj hf;rw[show fuel+1+(ops.size-k)=(fuel+(ops.size-k))+1 by omega];refine⟨fun h0=>by rw[h0]at h2;simp at h2,fun i hi=>?_⟩;have hik:i<k:=by
    rcases Zff i k with h|h
    ·exact h
    obtain⟨i1,i2,o,i3,i4⟩:=mem_ready.1 hi;have h5:=Lu hc b1 hs _ (b2 i h (by omega) j hj) i3 i4;simp only[Zge]at h5 hf;rw[Zgj (by omega)]at h5 hf;simp at h5 hf;rw[h5]at hf;simp at hf
   have h3:=hq i (up listed i hs hik hi);refine Zcd (fun a' w' h=>?_) (Tk h3);refine ih (listed.setIfInBounds i true) a' w' (by simpa using hs) (fun j' hj' hj2=>by rw[Ki,Zgq (fun h=>by omega)];exact hn j' hj' hj2) (hc.set hi (fun j o ho e he hb=>b1 j o ho e he hb) hs) ?_;rw[Zts];exact h.2
  have hy:∀ j,j<k→listed.getD j true=true:=fun j hj=>by
   cases h:listed.getD j true with
   | true=>rfl
   | false=>exact absurd ⟨j,hj,h⟩ hex
  refine all listed a w _ hs hn hy (by omega) (hr ?_);rw[Zf3];intro j hj;obtain⟨j1,j2,_⟩:=mem_ready.1 hj;rw[Ep,Zgn (by omega)]at j2;by_cases h1:j<k
  ·rw[hy j h1]at j2;simp at j2
  rw[Ye (by omega)]at j2;simp at j2
end
theorem Vd{P:Program}{id:Nat}{Q:Exit→Act→World→Prop}{S:World→Prop}{a:Act}{w:World}{l:List Oper}(k n:Nat)(hn:l.length=n)(hk:k≤n)(hm:P.follows .mixedOrders=true)(hB:Ztt l.toArray k=true)
 (h:wpAnyH P .any l.toArray (V5 P l.toArray Q k) S k (Bw (Array.replicate n false) k) a w.drew):(Code.region id l.toArray true).wp P Q a w:=by
 refine wp_region_any hm ?_;have hsz:l.toArray.size=n:=by simpa using hn
 have:=Ztq (P:=P) (Q:=Q) (S:=S) hB (by omega) k (Array.replicate n false) a w.drew (by simp[hn]) (fun j _ hj=>by simp at hj;simp[Zge,hn▸hj]) (fun j o ho hl=>by
  have hjn:=(Zgk.1 ho).1;rw[hsz]at hjn;simp[Zge,hjn]at hl) h
 rw[hsz]at this⊢;rw[show k+(n-k)=n by omega]at this;exact this
theorem Xa{P:Program}{id:Nat}{Q:Exit→Act→World→Prop}{a:Act}{w:World}{l:List Oper}(k n:Nat)(hn:l.length=n)(hk:k≤n)(hm:P.follows .mixedOrders=true)(hB:Ztt l.toArray k=true)(hL:(Region.noSelect l.toArray&&Region.lexFrom .any l.toArray k 0 (Bw (Array.replicate n false) k))=true)
 (h:wpQuiet P l.toArray (fun w'=>∃ p:Vt,w'=later w p.n p.os) (fun a'=>∀ w',Ext w w'→wpList P l.toArray Q (l.drop k) a' w') (l.take k) a):(Code.region id l.toArray true).wp P Q a w:=by
 rw[Zgc]at hL;refine Vd (S:=fun _=>True) k n hn hk hm hB (Tb _ _ _ _ ?_);have ht:(l.take k).length=k:=by simp;omega
 have hq:wpAnyQ P .any l.toArray (fun w'=>∃ p:Vt,w'=later w p.n p.os) (fun a'=>∀ w',Ext w w'→wpList P l.toArray Q (l.drop k) a' w') k (Bw (Array.replicate n false) k) a:=by
  have:=Zwm (P:=P) (md:=.any) hL.1 (l.take k) 0 (Bw (Array.replicate n false) k) a (fun j hj=>by rw[ht]at hj;simp[hj]) (by rw[ht];exact hL.2) h
  rwa [ht]at this
 refine wpAny_of_quiet (C:=fun w'=>∃ p:Vt,w'=later w p.n p.os) (Q:=fun a'=>∀ w',Ext w w'→wpList P l.toArray Q (l.drop k) a' w') (fun a' w' ⟨p,hp⟩ hq=>?_) _ _ _ _ ⟨⟨w.drawn+1,#[]⟩,by rw[Ut];rfl⟩ hq;exact hq w' ⟨p.n,p.os,hp⟩
section
variable {P:Program} {ops:Array Oper} {Q:Exit→Act→World→Prop} {S:World→Prop}
def Bv(P:Program)(ops:Array Oper)(S:World→Prop)(Q:Act→Prop):List Oper→Act→Prop
 | [],a=>Q a
 | o::l,a=>∃ v,YieldsIf P ops S o v a∧Bv P ops S Q l (a.put o.dst v)
theorem Xp{Q:Act→Prop}{a:Act}(h:Q a):Bv P ops S Q [] a:=h
theorem Xs{Q:Act→Prop}{o:Oper}{l:List Oper}{a:Act}{v:Value}(hw:Region.wanted o (yielded ops a.tmps)=true)(hv:∀ w,S w→(execOp a.eval o).run P w=.ok (.value v) w)(h:Bv P ops S Q l (a.put o.dst v)):Bv P ops S Q (o::l) a :=
 ⟨v,.inl ⟨hw,hv⟩,h⟩
theorem Qv{Q:Act→Prop}{o:Oper}{l:List Oper}{a:Act}(hw:Region.wanted o (yielded ops a.tmps)=false)(h:Bv P ops S Q l (a.put o.dst undef)):Bv P ops S Q (o::l) a:=⟨undef,.inr ⟨hw,rfl⟩,h⟩
def Zw2:Array Bool→List Nat→Array Bool
 | s,[]=>s
 | s,i::r=>Zw2 (s.setIfInBounds i true) r
def Zzq(ops:Array Oper):Array Bool→List Nat→Bool
 | _,[]=>true
 | s,i::r=>((Region.ready .any ops s).contains i&&Region.free .any ops s i&&(ops[i]?).isSome)&&Zzq ops (s.setIfInBounds i true) r
theorem Pa(hs:Region.noSelect ops=true)(hQ:∀ c a d v w,Q (.panic c) (a.put d v) w→Q (.panic c) a w){w:World}(hS:S w)(k:Nat):∀ (idx:List Nat) (listed:Array Bool) (a:Act),Zzq ops listed idx=true →
 Bv P ops S (fun a'=>wpAnyH P .any ops Q S k (Zw2 listed idx) a' w) (idx.filterMap (ops[·]?)) a→wpAnyH P .any ops Q S (k+idx.length) listed a w
 | [],_,_,_,h=>h
 | i::r,listed,a,hB,h=>by
  simp only[Zzq,Zgc]at hB;obtain⟨⟨⟨h1,h2⟩,h3⟩,h4⟩:=hB;obtain⟨o,ho⟩:=Zeh.1 h3;rw[List.filterMap_cons_some ho]at h;obtain⟨v,hy,h⟩:=h;exact Zen (fuel:=k+r.length) ho hs h2 h1 (fun c a' w' hq=>hQ c a' _ _ w' hq) hy hS (Pa hs hQ hS k r _ _ h4 h)
theorem Xu{w:World}{fuel:Nat}{listed:Array Bool}{a:Act}(idx:List Nat)(k:Nat)(hf:fuel=k+idx.length)(hs:Region.noSelect ops=true)(hB:Zzq ops listed idx=true)(hQ:∀ c a d v w,Q (.panic c) (a.put d v) w→Q (.panic c) a w)(hS:S w)
 (h:Bv P ops S (fun a'=>wpAnyH P .any ops Q S k (Zw2 listed idx) a' w) (idx.filterMap (ops[·]?)) a):wpAnyH P .any ops Q S fuel listed a w:=by
 subst hf;exact Pa hs hQ hS k idx listed a hB h
def Lat(w:World):World→Prop:=fun w'=>∃ p:Vt,w'=later w p.n p.os
theorem Lat.of{w w':World}(h:Ext w w'):Lat w w':=by
 obtain⟨d,os,rfl⟩:=h;exact⟨⟨d,os⟩,rfl⟩
theorem Lat.drew{w:World}:Lat w w.drew:=Lat.of (Yk w).drew
theorem Zua{α:Type}(l:List α){k:Nat}(hk:k≤l.length):(List.range k).filterMap (l.toArray[·]?)=l.take k:=by
 induction k with
 | zero=>simp
 | succ k ih =>
  rw[Zdn,List.filterMap_append,ih (by omega),Za];simp only[Z5,Zz (show k<l.length by omega),Z3,Z4,Ze2]
theorem Ub{l:List Oper}{w:World}{fuel:Nat}{listed:Array Bool}{a:Act}(k m:Nat)(hf:fuel=m+k)(hk:k≤l.length)(hs:Region.noSelect l.toArray=true)(hB:Zzq l.toArray listed (List.range k)=true)(hQ:∀ c a d v w,Q (.panic c) (a.put d v) w→Q (.panic c) a w)(hS:S w)
 (h:Bv P l.toArray S (fun a'=>wpAnyH P .any l.toArray Q S m (Zw2 listed (List.range k)) a' w) (l.take k) a):wpAnyH P .any l.toArray Q S fuel listed a w:=by
 refine Xu (List.range k) m (by rw[Zdk];exact hf) hs hB hQ hS ?_;rw[Zua l hk];exact h
end
theorem tksX{P:Program}{ops:Array Oper}{Q:Exit→Act→World→Prop}{S:World→Prop}{fuel:Nat}{listed:Array Bool}{a:Act}{w:World}(idx:List Nat)(k:Nat)(hS:S w)(h:Bv P ops S (fun a'=>wpAnyH P .any ops Q S k (Zw2 listed idx) a' w) (idx.filterMap (ops[·]?)) a)(hf:fuel=k+idx.length:=by rfl)(hs:Region.noSelect ops=true:=by kernel_rfl)(hB:Zzq ops listed idx=true:=by kernel_rfl)(hQ:∀ c a d v w,Q (.panic c) (a.put d v) w→Q (.panic c) a w:=by(intro _ _ d _ _ h;cases d<;>exact h)):wpAnyH P .any ops Q S fuel listed a w:=Xu idx k hf hs hB hQ hS h
theorem tkcX{P:Program}{ops:Array Oper}{S:World→Prop}{Q:Act→Prop}{o:Oper}{l:List Oper}{a:Act}{v:Value}(hv:∀ w,S w→(execOp a.eval o).run P w=.ok (.value v) w)(h:Bv P ops S Q l (a.put o.dst v))(hw:Region.wanted o (yielded ops a.tmps)=true:=by kernel_rfl):Bv P ops S Q (o::l) a:=Xs hw hv h
end
open Go.RowKit Go.Sort Go.Shelf
def Zps(l:List Kp)(qs:List (Nm×Rc)):List Kp:=qs.foldl (fun l q=>Jb l q.1.k q.2) l
def Kk(op client dl:Int)(ps:List (Nm×Rc)):List (Nm×Rc):=ps.map fun p=>(p.1,Wn op client dl p.1 p.2)
theorem Ch(l:List Kp)(qs:List (Nm×Rc))(q:Nm×Rc):Zps l (qs++[q])=Jb (Zps l qs) q.1.k q.2:=by simp[Zps,Zeg]
theorem Zvh(op client dl:Int)(ps:List (Nm×Rc)):(Kk op client dl ps).map Prod.snd=Eb op client dl ps:=by simp[Kk,Eb,Zez,Zdj]
theorem Zvi(op client dl:Int)(ps:List (Nm×Rc)):(Kk op client dl ps).map Prod.fst=ps.map Prod.fst:=by simp[Kk,Zez,Zdj]
theorem Zwc(op client dl:Int)(l:List Kp)(ps:List (Nm×Rc)):Ji op client dl l ps=Zps l (Kk op client dl ps):=by
 unfold Ji Zps Kk;rw[List.foldl_map]
theorem Zlu(l:List Kp)(k:ByteArray)(r:Rc):(Jb l k r).length≤l.length+1:=by
 have:∀ (l:List Kp) d,(Vr k r d l).length≤l.length+1:=by
  intro l
  induction l with
  | nil=>intro d;cases d<;>simp[Vr]
  | cons p l ih =>
   intro d;rw[Vr];split
   ·have:=ih d;simp only[Zl];omega
   split
   ·have h2:(Vr k r true l).length≤l.length:=by
     have:∀ l:List Kp,(Vr k r true l).length≤l.length:=by
      intro l
      induction l with
      | nil=>simp[Vr]
      | cons q l ih2 =>
       rw[Vr];split
       ·simp only[Zl];omega
       split
       ·rename_i h;simp at h
       simp only[Zl];omega
     exact this l
    simp only[Zl];omega
   have:=ih d;simp only[Zl];omega
 exact this l _
theorem Zwb(l:List Kp)(qs:List (Nm×Rc)):(Zps l qs).length≤l.length+qs.length:=by
 induction qs generalizing l with
 | nil=>simp[Zps]
 | cons q qs ih =>
  have h1:=ih (Jb l q.1.k q.2);have h2:=Zlu l q.1.k q.2;show(Zps (Jb l q.1.k q.2) qs).length≤_;simp only[Zl];omega
theorem Zj6{w:World}{b m:Nat}{cl cap:Int}{l:List Kp}(h:U9 w b m cl cap l):w.cell? ⟨b,0,none⟩=some (.int .i64 cl)∧w.cell? ⟨b,1,none⟩=some (.int .i64 cap)∧w.cell? ⟨b,2,none⟩=some (.map (some m))∧∀ ty,(Builtin.len_ #[191] ty #[.map (some m)]).run prog w=.ok (.int .i64 (l.length:Int)) w :=
 ⟨h.c0,h.c1,h.c2,fun ty=>h.map.len ty⟩
def Zhz(b m:Nat)(cl cap client op ttl now:Int)(l:List Kp)(ns:List Nm)(w:World)(e:Ending)(w':World):Prop :=
 e=.returned (Vw (doR cl cap l client op ttl now ns))∧U9 w' b m cl cap (doL cl cap l client op ttl now ns)∧Chg (· = m) w w'
structure Pb(w:World)(rb:Nat)(R:Zzk):Prop where
 z0:w.cell? ⟨rb,0,none⟩=some (.int .i64 R.e)
 z1:w.cell? ⟨rb,1,none⟩=some (.int .i64 R.at_)
 z2:w.cell? ⟨rb,2,none⟩=some (.string R.nm)
 z3:w.cell? ⟨rb,3,none⟩=some (.int .i64 R.rc.st)
 z4:w.cell? ⟨rb,4,none⟩=some (.int .i64 R.rc.ow)
 z5:w.cell? ⟨rb,5,none⟩=some (.string R.rc.nm)
 z6:w.cell? ⟨rb,6,none⟩=some (.int .i64 R.rc.dl)
 z7:w.cell? ⟨rb,7,none⟩=some (.int .i64 R.tick)
 lt:rb<w.heap.size
theorem Pb.chg{S:Nat→Prop}{w w':World}{rb:Nat}{R:Zzk}(h:Pb w rb R)(c:Chg S w w')(hb:¬ S rb):Pb w' rb R :=
 ⟨(c.cell (p:=⟨rb,0,none⟩) h.lt hb).trans h.z0,(c.cell (p:=⟨rb,1,none⟩) h.lt hb).trans h.z1,(c.cell (p:=⟨rb,2,none⟩) h.lt hb).trans h.z2,(c.cell (p:=⟨rb,3,none⟩) h.lt hb).trans h.z3,(c.cell (p:=⟨rb,4,none⟩) h.lt hb).trans h.z4,(c.cell (p:=⟨rb,5,none⟩) h.lt hb).trans h.z5,(c.cell (p:=⟨rb,6,none⟩) h.lt hb).trans h.z6,(c.cell (p:=⟨rb,7,none⟩) h.lt hb).trans h.z7,Zgp h.lt c.size⟩
theorem Zlq(w:World)(R:Zzk):Pb (w.alloc (.cells #[.int .i64 R.e,.int .i64 R.at_,.string R.nm,.int .i64 R.rc.st,.int .i64 R.rc.ow,.string R.rc.nm,.int .i64 R.rc.dl,.int .i64 R.tick] 53)) w.heap.size R:=by
 constructor<;>first|go_simp|simp
theorem Zkz{cap op client ttl now count:Int}{ps:List (Nm×Rc)}{w w':World}{e:Ending}{B:Nat}(h:Ed cap op client ttl now count ps w e w')(hB:B≤w.heap.size) :
 ∃ a n c qs,e=.returned (.tuple #[Vw (Wm cap op client ttl now count ps),.slice a n c])∧Ext w w'∧Q4 w' (fun k=>B≤k) (.slice a n c) (qs.map Prod.snd)∧qs=(if(Wm cap op client ttl now count ps).e=0 then Kk op client (Zs2 op ttl now) ps else[])∧n=qs.length:=by
 obtain⟨av,rfl,hx,h1,h2⟩:=h;by_cases h0:(Wm cap op client ttl now count ps).e=0
 ·have ho:=h1 h0;obtain⟨a,c,rfl⟩:=Wv ho;refine⟨a,_,c,Kk op client (Zs2 op ttl now) ps,rfl,hx,?_,by rw[Zgn h0],by simp[Kk]⟩;rw[Zvh];have e1:(Eb op client (Zs2 op ttl now) ps).length=ps.length:=by simp[Eb]
  unfold Q4;rw[e1];exact Rd.of_own ho fun k hk=>Zgo hB (ho.lt k hk).1
 have:=h2 h0;subst this;exact⟨none,0,0,[],rfl,hx,Rd.nil _ _ _,by rw[Zgq h0],rfl⟩
def Zka(cap op client ttl now:Int)(l:List Kp)(ns:List Nm)(w1:World)(p a:Value)(wx:World):Prop :=
 ∃ rb2 A n c qs,p=.pointer (some ⟨rb2,0,none⟩)∧a=.slice A n c∧Pb wx rb2 (Wm cap op client ttl now l.length (Qy l ns))∧w1.heap.size≤rb2∧Q4 wx (fun k=>w1.heap.size≤k) (.slice A n c) (qs.map Prod.snd)∧n=qs.length ∧
  qs=(if(Wm cap op client ttl now l.length (Qy l ns)).e=0 then Kk op client (Zs2 op ttl now) (Qy l ns)else[])∧Ext w1 wx
theorem Zj5{S:Nat→Prop}(b m:Nat)(cl cap client op ttl now:Int)(l:List Kp)(v:Value)(ns:List Nm)(w:World)(h:U9 w b m cl cap l)(hll:l.length≤100000)(hks:∀ n∈ns,n.k.size≤maxLen)(hn:Wo w S v ns)(hS:¬ S m) :
 Calls prog 84 #[.pointer (some ⟨b,0,none⟩),.int .i64 client,.int .i64 op,.int .i64 ttl,v,.int .i64 now] w (Zhz b m cl cap client op ttl now l ns w):=by
 obtain⟨A,cA,rfl⟩:=hn.shape;obtain⟨rb,hrb⟩:=gnX (w.heap.size);have hbl:=h.lt;have hml:=h.map.lt;have H:=Y8 h;have Hn:=Y8 hn;have Hks:=Y8 hks;have HS:=Y8 hS;have Hrb:=Y8 hrb;rw[hrb]at hbl hml;clear h hn hks hS;have X0:=Y8 ((Yk w).alloc (.cells #[.int .i64 0,.int .i64 0,.string ⟨#[]⟩,.int .i64 0,.int .i64 0,.string ⟨#[]⟩,.int .i64 0,.int .i64 0] 53));have hz0:=Rg w;rw[hrb]at hz0;have Hz0:=Y8 hz0;clear hz0;go_enter func84,ntmps84;go_wp2_with fail;refine(Tt b cl client op ttl now _ ns _ (H.o.ext X0.o).c0 (Hn.o.ext X0.o)).mono ?_;rintro x w1 ⟨rfl,hx⟩;have hz1:=Hz0.o.ext hx;have Hx1:=Y8 (X0.o.trans hx);clear hx hrb;cases hp:Jc cl client op ttl now ns with
 | false =>
  have hR:doR cl cap l client op ttl now ns=⟨1,-1,⟨#[]⟩,default,0⟩:=by unfold doR;rw[hp];simp
  have hL:doL cl cap l client op ttl now ns=l:=by unfold doL;rw[hp];simp
  have HR:=Y8 hR;have HL:=Y8 hL;have Hp:=Y8 hp;obtain⟨z0,z1,z2,z3,z4,z5,z6,z7,zf,zl⟩:=hz1;clear hR hL hp;go_wp2_with fail;have hcg:Ext w ((((((((w1.setCell ⟨rb,0,none⟩ (.int .i64 1)).setCell ⟨rb,1,none⟩ (.int .i64 (-1))).setCell ⟨rb,2,none⟩ (.string ⟨#[]⟩)).setCell ⟨rb,3,none⟩ (.int .i64 0)).setCell ⟨rb,4,none⟩ (.int .i64 0)).setCell ⟨rb,5,none⟩ (.string ⟨#[]⟩)).setCell ⟨rb,6,none⟩ (.int .i64 0)).setCell ⟨rb,7,none⟩ (.int .i64 0)):=by
   (repeat refine Y0 ?_ (by rw[Hrb.o];exact Ym _) _)
   exact Hx1.o
  refine Ys (v:=Vw ⟨1,-1,⟨#[]⟩,default,0⟩) (by simp[results,results84,go_sem,Vw,Qf, *]) rfl ⟨by rw[HR.o],?_,hcg.chg _⟩;rw[HL.o];exact H.o.ext hcg
 | true =>
  have Hp:=Y8 (Zfp hp);have Hpb:=Y8 hp;have hl1:=(Zfp hp).l1;obtain⟨nn,hnn⟩:=gnX (ns.length);rw[hnn]at hl1;rw[hnn];have Hnn:=Y8 hnn;have Hz1:=Y8 hz1;have hw1:rb+1≤w1.heap.size:=hz1.lt;clear hp hnn hz1;go_wp2_with fail;go_loopw [31,13] (fun o r wr=>∃ i:Nat,i≤nn∧o=.int .i64 (i:Int)∧wr.ownsRow w1.heap.size 51 4 r i (Kt ((ns.take i).map fun n=>Xd l n.k))∧Ext w1 wr) (fun o _ _=>nn-(intOf o).toNat);case atStart=>exact⟨0,by omega,rfl,Zfj _ _ _ _,Yk _⟩
  obtain⟨i,hi,rfl,hown,hx⟩:=hrel;obtain⟨la,lc,rfl⟩:=Wv hown;have Hown:=Y8 hown;have Hx:=Y8 hx;have Hxw:=Y8 (Hx1.o.trans hx);clear hown hx;by_cases hlt:i<nn
  ·have hdc:decide ((i:Int)<(nn:Int))=true:=by simpa using hlt
   obtain⟨g,o,c',hv,p1,p2,hSg,b1,hcell⟩:=(Hn.o.ext Hxw.o).get (j:=i) (by rw[Hnn.o];exact hlt);rw[Hnn.o]at hv p1;simp only[Yd,Zg0]at hv;obtain⟨rfl,rfl⟩:=hv;obtain⟨n,hni⟩:∃ n,ns[i]?=some n:=⟨ns[i]'(by have:=Hnn.o;omega),by simp⟩;obtain⟨x1,x2,x3⟩:=hcell _ _ hni;have i0:(0:Int)≤(i:Int):=by omega
   have i1:(i:Int)<(nn:Int):=by omega
   have Hni:=Y8 hni;have hk:=Hks.o n (Zy hni);clear hcell hni;go_upto_region 7 with fail;have hA1:Ext wr (wr.alloc (.cells #[.string n.a,.string n.u,.string n.k] 109)):=(Yk wr).alloc _;have n2:(wr.alloc (.cells #[.string n.a,.string n.u,.string n.k] 109)).cell? ⟨wr.heap.size,2,none⟩=some (.string n.k):=by go_simp
   have hs1:(wr.alloc (.cells #[.string n.a,.string n.u,.string n.k] 109)).heap.size=wr.heap.size+1:=by simp
   obtain⟨W1,hW1⟩:=gnX (wr.alloc (.cells #[.string n.a,.string n.u,.string n.k] 109));rw[hW1]at hA1 n2 hs1;rw[hW1];obtain⟨nb,hnb⟩:=gnX (wr.heap.size);rw[hnb]at n2 hs1;rw[hnb];have hm1:=H.o.ext (Hxw.o.trans hA1);have hc2:=hm1.c2;have hlk:=hm1.map.look hk;unfold rcV at hlk;have HA1:=Y8 hA1;have Hs1:=Y8 hs1;have Hnb:=Y8 hnb;have Hm1:=Y8 hm1;clear hW1 hA1 hs1 hnb hm1 x1 x2 x3;refine Zg8 (S:=fun w'=>w'.cell? ⟨b,2,none⟩=some (.map (some m))∧w'.cell? ⟨nb,2,none⟩=some (.string n.k)∧(Instr.lookup 191 (.map (some m)) (.string n.k) false).run prog w'=.ok (.agg #[.int .i64 (Xd l n.k).st,.int .i64 (Xd l n.k).ow,.string (Xd l n.k).nm,.int .i64 (Xd l n.k).dl]) w') (by kernel_rfl) ?_ (fun hHeld=>?_)
   ·exact⟨hc2,n2,(Hm1.o.map.ext (Yk W1).drew).look hk⟩
   refine tksX [0,1,2,3,4,5,6,7] 3 (by assumption) ?_;simp only[Z3,Z4,Z5,Zw,Zx];repeat(refine tkcX (v:=?_) ?_ ?_;rotate_left;(focus((intro w hSw;(try dsimp only at hSw);go_simp);(first|done|(with_reducible rfl))));(try simp only[Act.put]);(try simp only[Zv]))
   refine Xp ?_;refine rdoX 8 (fun K hK=>?_);go_simp;have hxa:Ext W1 ((W1.alloc (.cells #[.int .i64 (Xd l n.k).st,.int .i64 (Xd l n.k).ow,.string (Xd l n.k).nm,.int .i64 (Xd l n.k).dl] 51)).drew):=((Yk W1).alloc _).drew;have hbW:b<W1.heap.size:=by have:=Hs1.o;have:=Hnb.o;have:=Hx.o.size;omega
   have hnW:nb<W1.heap.size:=by have:=Hs1.o;omega
   have hrl:Rd ((W1.alloc (.cells #[.int .i64 (Xd l n.k).st,.int .i64 (Xd l n.k).ow,.string (Xd l n.k).nm,.int .i64 (Xd l n.k).dl] 51)).drew) (fun _=>True) 4 (.slice (some ⟨W1.heap.size,0,none⟩) 1 1) 1 [.int .i64 (Xd l n.k).st,.int .i64 (Xd l n.k).ow,.string (Xd l n.k).nm,.int .i64 (Xd l n.k).dl]:=(Qh W1 #[.int .i64 (Xd l n.k).st,.int .i64 (Xd l n.k).ow,.string (Xd l n.k).nm,.int .i64 (Xd l n.k).dl] 51 4 (by rfl)).drew;have hc2a:=(hxa.cell (p:=⟨b,2,none⟩) hbW).trans hc2;have n2a:=(hxa.cell (p:=⟨nb,2,none⟩) hnW).trans n2;have hma:=Hm1.o.map.ext hxa;have hbz:w1.heap.size≤((W1.alloc (.cells #[.int .i64 (Xd l n.k).st,.int .i64 (Xd l n.k).ow,.string (Xd l n.k).nm,.int .i64 (Xd l n.k).dl] 51)).drew).heap.size:=Zgo (Zgo Hx.o.size HA1.o.size) hxa.size;have Hxa:=Y8 hxa;have Hma:=Y8 hma;have Hrl:=Y8 hrl;have Hbz:=Y8 hbz;refine hK.out _ _ ⟨hc2a,n2a,hma.look hk⟩ (fun hHeld=>?_);clear hK K hxa hma hrl hbz hlk hc2 n2;try simp only[Act.put,Zv,Zu,Zt]
   refine rdoX 9 (fun K hK=>?_);obtain⟨j0,hj,hj0,hj1,hj2⟩:=Zgl J7;refine Ex _ (by rfl) (.tmp 35) (.tmp 43) 25 (by rfl) w1.heap.size 51 j0 _ 4 40 Av hj hj0 hj1 hj2 (by rfl) (by decide) (.slice la i lc) i (Kt ((ns.take i).map fun n=>Xd l n.k)) (by rfl) (Ek Hown.o (HA1.o.trans Hxa.o)) (fun _=>True) (.slice (some ⟨W1.heap.size,0,none⟩) 1 1) 1 [.int .i64 (Xd l n.k).st,.int .i64 (Xd l n.k).ow,.string (Xd l n.k).nm,.int .i64 (Xd l n.k).dl] (by rfl) Hrl.o (by simp[Value.oneCell']) (by unfold maxLen;omega) (by omega) Hbz.o ?_;intro v' w3 ha;have hcg:Chg (fun k=>w1.heap.size≤k∧k<nb) _ w3:=(Chg.refl _ _).grown ha.grown (fun k hk=>.inl (by have:=Hown.o.lt k hk;have:=Hnb.o;omega));have hx3:Ext w1 w3:=((Hx.o.trans HA1.o).trans Hxa.o).chg_new hcg fun k hk=>hk.1
   have hend:w3.ownsRow w1.heap.size 51 4 v' (i+1) (Kt ((ns.take (i+1)).map fun n=>Xd l n.k)):=by
    rw[take_at Hni.o,Yy,Zg4,Zfv,Fu];exact ha.own
   have hm3:=H.o.ext (Hx1.o.trans hx3);have n23:=(hcg.cell (p:=⟨nb,2,none⟩) (Zgp hnW Hxa.o.size) (by simp only;omega)).trans n2a;have Hend:=Y8 hend;have Hx3:=Y8 hx3;have Hm3:=Y8 hm3;go_simp;refine hK.out _ _ ⟨Hm3.o.c2,n23,Hm3.o.map.look hk⟩ (fun hHeld=>?_);clear hK K hcg hx3 hend hm3 n23 ha n2a hc2a;try simp only[Act.put,Zv,Zu,Zt]
   refine Zen (i:=10) (oi:=_) (v:=?_) rfl (by kernel_rfl) (by kernel_rfl) (by kernel_rfl) (fun _ _ _ h=>h) (Or.inl ⟨by rfl,?_⟩) (by assumption) ?_;rotate_left;(focus((intro w hSw;(try dsimp only at hSw);go_simp);(first|done|(with_reducible rfl))));(try simp only[Act.put]);(try simp only[Zv]);refine dneX ?_;go_simp;obtain⟨a3,c3,hv3⟩:=Wv Hend.o;subst hv3;clear hHeld;go_wp2_with fail;go_roundw;case rel=>exact⟨i+1,by omega,by go_num,Hend.o,Hx3.o⟩
   simp[intOf];omega
  have hdc:decide ((i:Int)<(nn:Int))=false:=by simp;omega
  obtain rfl:nn=i:=by omega
  have hrecs:Q4 wr (fun k=>w1.heap.size≤k) (.slice la nn lc) ((Qy l ns).map Prod.snd):=by
   have h1:=Hown.o;rw[Zm (by rw[Hnn.o];exact Ym _)]at h1;have e1:(Qy l ns).map Prod.snd=ns.map fun n=>Xd l n.k:=by simp[Qy,Zez,Zdj]
   have e2:(ns.map fun n=>Xd l n.k).length=nn:=by rw[Zq];exact Hnn.o
   rw[e1];unfold Q4;rw[e2];exact Rd.of_own h1 fun k hk=>(h1.lt k hk).1
  have hps:(Qy l ns).map Prod.fst=ns:=by simp[Qy,Zez,Zdj]
  have hm1:=H.o.ext Hxw.o;have Hrecs:=Y8 hrecs;have Hps:=Y8 hps;have Hm1:=Y8 hm1;clear hrecs hps hm1;have hnI:Wo wr S (.slice A nn cA) ((Qy l ns).map Prod.fst):=by
   rw[Hps.o,← Hnn.o];exact Hn.o.ext Hxw.o
  have HnI:=Y8 hnI;clear hnI;go_upto_region 9 with fail;go_cut [16,17] (fun p a wx=>Zka cap op client ttl now l ns w1 p a wx);case first =>
   rename_i J1 K1 hJ hM;refine Zg8 (S:=fun w'=>w'.cell? ⟨b,0,none⟩=some (.int .i64 cl)∧w'.cell? ⟨b,1,none⟩=some (.int .i64 cap)∧w'.cell? ⟨b,2,none⟩=some (.map (some m))∧∀ ty,(Builtin.len_ #[191] ty #[.map (some m)]).run prog w'=.ok (.int .i64 (l.length:Int)) w') (by kernel_rfl) ?_ (fun hHeld=>?_)
   ·exact Zj6 (Hm1.o.ext (Yk wr).drew)
   refine tksX [0,1,2,3,4,5,6,7,8,9,10,11,12,13,14] 7 (by assumption) ?_;simp only[Z3,Z4,Z5,Zw,Zx];repeat(refine tkcX (v:=?_) ?_ ?_;rotate_left;(focus((intro w hSw;(try dsimp only at hSw);go_simp);(first|done|(with_reducible rfl))));(try simp only[Act.put]);(try simp only[Zv]))
   refine Xp ?_;refine rdyX (rs:=[15,19]) ?_;refine Yr (o:=_) rfl (fun K hK=>?_) (Yr (o:=_) rfl (fun K hK=>?_) Yq)
   ·go_simp;refine(P9 cl cap l.length client op ttl now _ _ (Qy l ns) wr.drew (by rw[Hps.o];exact Hp.o) (by omega) (by omega) (HnI.o.ext (Yk wr).drew) (Rd.ext Hrecs.o (Yk wr).drew)).mono ?_;intro x w3 hpost;obtain⟨a4,n4,c4,qs,rfl,hx3,hr3,hq3,hn3⟩:=Zkz (B:=w1.heap.size) hpost Hx.o.size;obtain⟨R,hR⟩:=gnX (Wm cap op client ttl now l.length (Qy l ns));rw[hR]at hq3;rw[hR];unfold Vw;have HR:=Y8 hR;have Hx3:=Y8 hx3;have Hr3:=Y8 hr3;have Hq3:=Y8 hq3;have Hn3:=Y8 hn3;clear hpost hx3 hr3 hq3 hR hn3;dsimp only;refine hK.out _ _ (Zj6 (Hm1.o.ext ((Yk wr).drew.trans Hx3.o))) (fun hHeld=>?_);clear hK K;try simp only[Act.put,Zv,Zu,Zt]
    refine tksX [16,17,18] 3 (by assumption) ?_;simp only[Z3,Z4,Z5,Zw,Zx];repeat(refine tkcX (v:=?_) ?_ ?_;rotate_left;(focus((intro w hSw;(try dsimp only at hSw);go_simp);(first|done|(with_reducible rfl))));(try simp only[Act.put]);(try simp only[Zv]))
    refine Xp ?_;refine rdoX 19 (fun K hK=>?_);go_simp;refine hK.out _ _ (Zj6 (Hm1.o.ext (((Yk wr).drew.trans Hx3.o).alloc _))) (fun hHeld=>?_);clear hK K;try simp only[Act.put,Zv,Zu,Zt]
    refine rdoX 20 (fun K hK=>?_);go_simp;refine hK.out _ _ (Zj6 (Hm1.o.ext (((Yk wr).drew.trans Hx3.o).alloc _))) (fun hHeld=>?_);clear hK K;try simp only[Act.put,Zv,Zu,Zt]
    refine Zen (i:=21) (oi:=_) (v:=?_) rfl (by kernel_rfl) (by kernel_rfl) (by kernel_rfl) (fun _ _ _ h=>h) (Or.inl ⟨by rfl,?_⟩) (by assumption) ?_;rotate_left;(focus((intro w hSw;(try dsimp only at hSw);go_simp);(first|done|(with_reducible rfl))));(try simp only[Act.put]);(try simp only[Zv]);refine dneX ?_;go_simp;refine hM _ _ (hJ _ _ ?_);have hxa:Ext w3 (w3.alloc (.cells #[.int .i64 R.e,.int .i64 R.at_,.string R.nm,.int .i64 R.rc.st,.int .i64 R.rc.ow,.string R.rc.nm,.int .i64 R.rc.dl,.int .i64 R.tick] 53)):=(Yk w3).alloc _;have hfin:Zka cap op client ttl now l ns w1 (.pointer (some ⟨w3.heap.size,0,none⟩)) (.slice a4 n4 c4) (w3.alloc (.cells #[.int .i64 R.e,.int .i64 R.at_,.string R.nm,.int .i64 R.rc.st,.int .i64 R.rc.ow,.string R.rc.nm,.int .i64 R.rc.dl,.int .i64 R.tick] 53)) :=
     ⟨_,_,_,_,_,rfl,rfl,by rw[HR.o];exact Zlq w3 R,Zgo Hx.o.size Hx3.o.size,Rd.ext Hr3.o hxa,Hn3.o,by rw[HR.o];exact Hq3.o,((Hx.o.drew.trans Hx3.o).trans hxa)⟩
    clear hHeld;(repeat apply Exists.intro)
    exact⟨hfin,rfl⟩
   go_simp;have hxz:Ext wr (wr.alloc (.cells #[.int .i64 0,.int .i64 0,.string ⟨#[]⟩,.int .i64 0,.int .i64 0,.string ⟨#[]⟩,.int .i64 0,.int .i64 0] 53)):=(Yk wr).alloc _;have hrz:=Rg wr;have hsz:(wr.alloc (.cells #[.int .i64 0,.int .i64 0,.string ⟨#[]⟩,.int .i64 0,.int .i64 0,.string ⟨#[]⟩,.int .i64 0,.int .i64 0] 53)).heap.size=wr.heap.size+1:=by simp
   obtain⟨W2,hW2⟩:=gnX (wr.alloc (.cells #[.int .i64 0,.int .i64 0,.string ⟨#[]⟩,.int .i64 0,.int .i64 0,.string ⟨#[]⟩,.int .i64 0,.int .i64 0] 53));rw[hW2]at hxz hrz hsz;rw[hW2];obtain⟨rb2,hrb2⟩:=gnX (wr.heap.size);rw[hrb2]at hrz hsz;rw[hrb2];have Hxz:=Y8 hxz;have Hrz:=Y8 hrz;have Hsz:=Y8 hsz;have Hrb2:=Y8 hrb2;clear hW2 hxz hrz hsz hrb2;refine hK.out _ _ (Zj6 (Hm1.o.ext Hxz.o.drew)) (fun hHeld=>?_);clear hK K;try simp only[Act.put,Zv,Zu,Zt]
   refine rdoX 15 (fun K hK=>?_);go_simp;refine(P9 cl cap l.length client op ttl now _ _ (Qy l ns) W2.drew (by rw[Hps.o];exact Hp.o) (by omega) (by omega) (HnI.o.ext Hxz.o.drew) (Rd.ext Hrecs.o Hxz.o.drew)).mono ?_;intro x w3 hpost;obtain⟨a4,n4,c4,qs,rfl,hx3,hr3,hq3,hn3⟩:=Zkz (B:=W2.heap.size) hpost (Ym _);obtain⟨R,hR⟩:=gnX (Wm cap op client ttl now l.length (Qy l ns));rw[hR]at hq3;rw[hR];unfold Vw;have HR:=Y8 hR;have Hx3:=Y8 ((Yk W2).drew.trans hx3);have Hr3:=Y8 hr3;have Hq3:=Y8 hq3;have Hn3:=Y8 hn3;clear hpost hx3 hr3 hq3 hR hn3;dsimp only;refine hK.out _ _ (Zj6 (Hm1.o.ext (Hxz.o.trans Hx3.o))) (fun hHeld=>?_);clear hK K;try simp only[Act.put,Zv,Zu,Zt]
   refine tksX [16,17,18] 2 (by assumption) ?_;simp only[Z3,Z4,Z5,Zw,Zx];repeat(refine tkcX (v:=?_) ?_ ?_;rotate_left;(focus((intro w hSw;(try dsimp only at hSw);go_simp);(first|done|(with_reducible rfl))));(try simp only[Act.put]);(try simp only[Zv]))
   refine Xp ?_;obtain⟨z0,z1,z2,z3,z4,z5,z6,z7,zf,zl⟩:=Hrz.o.ext Hx3.o;refine rdoX 20 (fun K hK=>?_);go_simp;have hrw:w1.heap.size≤rb2:=by have:=Hx.o.size;have:=Hrb2.o;omega
   have hcg:Ext w1 ((((((((w3.setCell ⟨rb2,0,none⟩ (.int .i64 R.e)).setCell ⟨rb2,1,none⟩ (.int .i64 R.at_)).setCell ⟨rb2,2,none⟩ (.string R.nm)).setCell ⟨rb2,3,none⟩ (.int .i64 R.rc.st)).setCell ⟨rb2,4,none⟩ (.int .i64 R.rc.ow)).setCell ⟨rb2,5,none⟩ (.string R.rc.nm)).setCell ⟨rb2,6,none⟩ (.int .i64 R.rc.dl)).setCell ⟨rb2,7,none⟩ (.int .i64 R.tick)):=by
    (repeat refine Y0 ?_ hrw _)
    exact(Hx.o.trans Hxz.o).trans Hx3.o
   have hcg2:Chg (· = rb2) w3 ((((((((w3.setCell ⟨rb2,0,none⟩ (.int .i64 R.e)).setCell ⟨rb2,1,none⟩ (.int .i64 R.at_)).setCell ⟨rb2,2,none⟩ (.string R.nm)).setCell ⟨rb2,3,none⟩ (.int .i64 R.rc.st)).setCell ⟨rb2,4,none⟩ (.int .i64 R.rc.ow)).setCell ⟨rb2,5,none⟩ (.string R.rc.nm)).setCell ⟨rb2,6,none⟩ (.int .i64 R.rc.dl)).setCell ⟨rb2,7,none⟩ (.int .i64 R.tick)):=by
    (repeat refine Chg.setCell (S:=(· = rb2)) ?_ (.inl rfl) _)
    exact Chg.refl _ _
   have hresp:Pb ((((((((w3.setCell ⟨rb2,0,none⟩ (.int .i64 R.e)).setCell ⟨rb2,1,none⟩ (.int .i64 R.at_)).setCell ⟨rb2,2,none⟩ (.string R.nm)).setCell ⟨rb2,3,none⟩ (.int .i64 R.rc.st)).setCell ⟨rb2,4,none⟩ (.int .i64 R.rc.ow)).setCell ⟨rb2,5,none⟩ (.string R.rc.nm)).setCell ⟨rb2,6,none⟩ (.int .i64 R.rc.dl)).setCell ⟨rb2,7,none⟩ (.int .i64 R.tick)) rb2 R:=by
    constructor<;>first|go_simp|(simp[World.setCell];omega)
   have hfin:Zka cap op client ttl now l ns w1 (.pointer (some ⟨rb2,0,none⟩)) (.slice a4 n4 c4) ((((((((w3.setCell ⟨rb2,0,none⟩ (.int .i64 R.e)).setCell ⟨rb2,1,none⟩ (.int .i64 R.at_)).setCell ⟨rb2,2,none⟩ (.string R.nm)).setCell ⟨rb2,3,none⟩ (.int .i64 R.rc.st)).setCell ⟨rb2,4,none⟩ (.int .i64 R.rc.ow)).setCell ⟨rb2,5,none⟩ (.string R.rc.nm)).setCell ⟨rb2,6,none⟩ (.int .i64 R.rc.dl)).setCell ⟨rb2,7,none⟩ (.int .i64 R.tick)) :=
    ⟨_,_,_,_,_,rfl,rfl,by rw[HR.o];exact hresp,hrw,Rd.mono (Rd.chg Hr3.o hcg2 fun k hk e=>by have:=Hsz.o;omega) fun k hk _=>by have:=Hsz.o;omega,Hn3.o,by rw[HR.o];exact Hq3.o,hcg⟩
   have hmf:=Hm1.o.ext (Hxz.o.trans Hx3.o);have hmf2:=hmf.chg hcg2 (by have:=Hrb2.o;have:=Hx.o.size;omega) (by have:=Hrb2.o;have:=Hx.o.size;omega);refine hK.out _ _ (Zj6 hmf2) (fun hHeld=>?_);clear hK K;try simp only[Act.put,Zv,Zu,Zt]
   refine Zen (i:=21) (oi:=_) (v:=?_) rfl (by kernel_rfl) (by kernel_rfl) (by kernel_rfl) (fun _ _ _ h=>h) (Or.inl ⟨by rfl,?_⟩) (by assumption) ?_;rotate_left;(focus((intro w hSw;(try dsimp only at hSw);go_simp);(first|done|(with_reducible rfl))));(try simp only[Act.put]);(try simp only[Zv]);refine dneX ?_;go_simp;refine hM _ _ (hJ _ _ ?_);clear hHeld hcg hcg2 hresp hmf hmf2;(repeat apply Exists.intro)
   exact⟨hfin,rfl⟩
  obtain⟨rb2,A2,n2,c2,qs,rfl,rfl,hresp,hrb2,hrecs2,rfl,hqs,hxc⟩:=hcut;obtain⟨R,hR⟩:=gnX (Wm cap op client ttl now l.length (Qy l ns));rw[hR]at hresp hqs;have hdoR:doR cl cap l client op ttl now ns=R:=by unfold doR;rw[Zgn Hpb.o,hR]
  have hdoL:doL cl cap l client op ttl now ns=Zps l qs:=by
   unfold doL;rw[hR,hqs];by_cases h0:R.e=0
   ·rw[Zgn ⟨Hpb.o,h0⟩,Zgn h0,← Zwc];unfold Ji;congr 1;funext l p;rw[Zni (d':=Zs2 op ttl now) (fun ht=>by unfold Zs2;rw[Zgn ht])]
   rw[Zgq fun q=>h0 q.2,Zgq h0];rfl
  have hql:qs.length≤16:=by
   rw[hqs];split
   ·simp[Kk,Qy];rw[Hnn.o];exact hl1
   simp
  have hqn:∀ (j:Nat) (q:Nm×Rc),qs[j]?=some q→ns[j]?=some q.1:=by
   intro j q hq;have hj:(qs.map Prod.fst)[j]?=some q.1:=by rw[Zn,hq];rfl
   rw[hqs]at hj;split at hj
   ·rw[Zvi,Hps.o]at hj;exact hj
   simp at hj
  have HdoR:=Y8 hdoR;have HdoL:=Y8 hdoL;have Hqn:=Y8 hqn;have Hresp:=Y8 hresp;have Hrecs2:=Y8 hrecs2;have Hxc:=Y8 (Hx1.o.trans hxc);have Hxc1:=Y8 hxc;have Hrb2:=Y8 hrb2;have Hqn2:=Y8 (show qs.length=(qs.map Prod.snd).length by simp);clear hR hqs hdoR hdoL hqn hresp hrecs2 hxc hrb2;go_wp2_with fail;go_loopw [67] (fun o wr=>∃ i:Nat,i≤qs.length∧o=.int .i64 (i:Int)∧MapAt wr m (Zps l (qs.take i))∧Chg (· = m) wc wr) (fun o _=>qs.length-(intOf o).toNat);case atStart=>exact⟨0,by omega,rfl,(H.o.ext Hxc.o).map,Chg.refl _ _⟩
  obtain⟨i,hi',rfl,hmp,hcg⟩:=hrel;have Hmp:=Y8 hmp;have Hcg:=Y8 hcg;clear hmp hcg;by_cases hlt2:i<qs.length
  ·have hdc2:decide ((i:Int)<(qs.length:Int))=true:=by simpa using hlt2
   obtain⟨⟨n,r⟩,hqi⟩:∃ q,qs[i]?=some q:=⟨qs[i],by simp[hlt2]⟩;have hqr:(qs.map Prod.snd)[i]?=some r:=by rw[Zn,hqi];rfl
   have hni:=Hqn.o i _ hqi;simp only at hni;have hmlw1:m<w1.heap.size:=by omega
   have hrm:∀ k,w1.heap.size≤k→¬ k=m:=fun k hk e=>by omega
   obtain⟨g2,o2,c2',hv2,p3,p4,b2,y0,y1,y2,y3⟩:=V7 (Rd.chg Hrecs2.o Hcg.o hrm) hqr;rw[← Hqn2.o]at hv2 p3;obtain⟨g,o,c',hv,p1,p2,hSg,b1,hcell⟩:=Wo.get (Rd.chg (Hn.o.ext Hxc.o) Hcg.o fun k hk e=>HS.o (e▸hk)) (j:=i) ((Zr.1 hni).1);rw[Hnn.o]at hv p1;simp only[Yd,Zg0]at hv hv2;obtain⟨rfl,rfl⟩:=hv;obtain⟨rfl,rfl⟩:=hv2;obtain⟨_,_,x3⟩:=hcell _ _ hni;have i0:(0:Int)≤(i:Int):=by omega
   have i1:(i:Int)<(qs.length:Int):=by omega
   have i2:(i:Int)<(nn:Int):=by have:=(Zr.1 hni).1;rw[Hnn.o]at this;omega
   have hk:=Hks.o n (Zy hni);have hgm:¬ g=m:=fun e=>HS.o (e▸hSg)
   have hlm:(Zps l (qs.take i)).length<maxLen:=by have:=Zwb l (qs.take i);rw[Zp]at this;unfold maxLen;omega
   have hne:¬ b=m:=H.o.ne;have Hqi:=Y8 hqi;clear hqi hqr hni hcell hmlw1 hrm;by_cases hst:r.st=0
   ·have hst':(r.st==0)=true:=by simpa using hst
    have Hst:=Y8 hst;clear hst;go_upto_region 14 with fail;have hA1:Ext wr (wr.alloc (.cells #[.int .i64 r.st,.int .i64 r.ow,.string r.nm,.int .i64 r.dl] 51)):=(Yk wr).alloc _;have e0:(wr.alloc (.cells #[.int .i64 r.st,.int .i64 r.ow,.string r.nm,.int .i64 r.dl] 51)).cell? ⟨wr.heap.size,0,none⟩=some (.int .i64 r.st):=by go_simp
    have e1:(wr.alloc (.cells #[.int .i64 r.st,.int .i64 r.ow,.string r.nm,.int .i64 r.dl] 51)).cell? ⟨wr.heap.size,1,none⟩=some (.int .i64 r.ow):=by go_simp
    have e2:(wr.alloc (.cells #[.int .i64 r.st,.int .i64 r.ow,.string r.nm,.int .i64 r.dl] 51)).cell? ⟨wr.heap.size,2,none⟩=some (.string r.nm):=by go_simp
    have e3:(wr.alloc (.cells #[.int .i64 r.st,.int .i64 r.ow,.string r.nm,.int .i64 r.dl] 51)).cell? ⟨wr.heap.size,3,none⟩=some (.int .i64 r.dl):=by go_simp
    have hs1:(wr.alloc (.cells #[.int .i64 r.st,.int .i64 r.ow,.string r.nm,.int .i64 r.dl] 51)).heap.size=wr.heap.size+1:=by simp
    obtain⟨W1,hW1⟩:=gnX (wr.alloc (.cells #[.int .i64 r.st,.int .i64 r.ow,.string r.nm,.int .i64 r.dl] 51));rw[hW1]at hA1 e0 e1 e2 e3 hs1;rw[hW1];obtain⟨nb,hnb⟩:=gnX (wr.heap.size);rw[hnb]at e0 e1 e2 e3 hs1;rw[hnb];have hmlt:=Hmp.o.lt;have hbw:b<wr.heap.size:=by have:=(Hxc.o.size);have:=Hcg.o.size;have:=H.o.lt;omega
    have hc2:W1.cell? ⟨b,2,none⟩=some (.map (some m)):=(hA1.cell (p:=⟨b,2,none⟩) hbw).trans ((Hcg.o.cell (p:=⟨b,2,none⟩) (by have:=Hxc.o.size;have:=H.o.lt;simp only;omega) hne).trans (H.o.ext Hxc.o).c2);have x3:=(hA1.cell (p:=⟨g,o+i*3+2,none⟩) b1).trans x3;have hbW:b<W1.heap.size:=Zgp hbw hA1.size;have hgW:g<W1.heap.size:=Zgp b1 hA1.size;have hnW:nb<W1.heap.size:=by omega
    have hnm:¬ nb=m:=by omega
    have Hmw:=Y8 (Hmp.o.ext hA1);have HcgW:=Y8 (Hcg.o.trans (hA1.chg (fun k=>k=m)));clear hW1 hA1 y0 y1 y2 y3 hs1 hmlt hbw hnb;refine Zg8 (S:=fun w'=>w'.cell? ⟨b,2,none⟩=some (.map (some m))∧w'.cell? ⟨g,o+i*3+2,none⟩=some (.string n.k)) (by kernel_rfl) ?_ (fun hHeld=>?_)
    ·exact⟨hc2,x3⟩
    refine tksX [0,1,2,3,4,5,6,7,8] 1 (by assumption) ?_;simp only[Z3,Z4,Z5,Zw,Zx];repeat(refine tkcX (v:=?_) ?_ ?_;rotate_left;(focus((intro w hSw;(try dsimp only at hSw);go_simp);(first|done|(with_reducible rfl))));(try simp only[Act.put]);(try simp only[Zv]))
    refine Xp ?_;obtain⟨w4,hrun,hmap4,hcg4,hsz4⟩:=(Hmw.o.ext (Yk W1).drew).del hk Hst.o 0;refine rdoX 9 (fun K hK=>?_);go_simp;refine hK.out _ _ ⟨(hcg4.cell (p:=⟨b,2,none⟩) hbW hne).trans hc2,(hcg4.cell (p:=⟨g,o+i*3+2,none⟩) hgW hgm).trans x3⟩ (fun hHeld=>?_);clear hK K;try simp only[Act.put,Zv,Zu,Zt]
    refine dneX ?_;have Hm4:=Y8 hmap4;have Hcg4:=Y8 (HcgW.o.trans ((Chg.refl (fun k=>k=m) W1).drew.trans hcg4));clear hHeld hmap4 hcg4 hsz4 hrun x3 hc2 e0 e1 e2 e3;go_simp;go_wp2_with fail;go_roundw;case rel=>exact⟨i+1,by omega,by go_num,by rw[take_at Hqi.o,Ch];exact Hm4.o,Hcg4.o⟩
    simp[intOf];omega
   have hst':(r.st==0)=false:=by simpa using hst
   have Hst:=Y8 hst;clear hst;go_upto_region 15 with fail;have hA1:Ext wr (wr.alloc (.cells #[.int .i64 r.st,.int .i64 r.ow,.string r.nm,.int .i64 r.dl] 51)):=(Yk wr).alloc _;have e0:(wr.alloc (.cells #[.int .i64 r.st,.int .i64 r.ow,.string r.nm,.int .i64 r.dl] 51)).cell? ⟨wr.heap.size,0,none⟩=some (.int .i64 r.st):=by go_simp
   have e1:(wr.alloc (.cells #[.int .i64 r.st,.int .i64 r.ow,.string r.nm,.int .i64 r.dl] 51)).cell? ⟨wr.heap.size,1,none⟩=some (.int .i64 r.ow):=by go_simp
   have e2:(wr.alloc (.cells #[.int .i64 r.st,.int .i64 r.ow,.string r.nm,.int .i64 r.dl] 51)).cell? ⟨wr.heap.size,2,none⟩=some (.string r.nm):=by go_simp
   have e3:(wr.alloc (.cells #[.int .i64 r.st,.int .i64 r.ow,.string r.nm,.int .i64 r.dl] 51)).cell? ⟨wr.heap.size,3,none⟩=some (.int .i64 r.dl):=by go_simp
   have hs1:(wr.alloc (.cells #[.int .i64 r.st,.int .i64 r.ow,.string r.nm,.int .i64 r.dl] 51)).heap.size=wr.heap.size+1:=by simp
   obtain⟨W1,hW1⟩:=gnX (wr.alloc (.cells #[.int .i64 r.st,.int .i64 r.ow,.string r.nm,.int .i64 r.dl] 51));rw[hW1]at hA1 e0 e1 e2 e3 hs1;rw[hW1];obtain⟨nb,hnb⟩:=gnX (wr.heap.size);rw[hnb]at e0 e1 e2 e3 hs1;rw[hnb];have hmlt:=Hmp.o.lt;have hbw:b<wr.heap.size:=by have:=(Hxc.o.size);have:=Hcg.o.size;have:=H.o.lt;omega
   have hc2:W1.cell? ⟨b,2,none⟩=some (.map (some m)):=(hA1.cell (p:=⟨b,2,none⟩) hbw).trans ((Hcg.o.cell (p:=⟨b,2,none⟩) (by have:=Hxc.o.size;have:=H.o.lt;simp only;omega) hne).trans (H.o.ext Hxc.o).c2);have x3:=(hA1.cell (p:=⟨g,o+i*3+2,none⟩) b1).trans x3;have hbW:b<W1.heap.size:=Zgp hbw hA1.size;have hgW:g<W1.heap.size:=Zgp b1 hA1.size;have hnW:nb<W1.heap.size:=by omega
   have hnm:¬ nb=m:=by omega
   have Hmw:=Y8 (Hmp.o.ext hA1);have HcgW:=Y8 (Hcg.o.trans (hA1.chg (fun k=>k=m)));clear hW1 hA1 y0 y1 y2 y3 hs1 hmlt hbw hnb;refine Zg8 (S:=fun w'=>w'.cell? ⟨b,2,none⟩=some (.map (some m))∧w'.cell? ⟨g,o+i*3+2,none⟩=some (.string n.k)∧w'.cell? ⟨nb,0,none⟩=some (.int .i64 r.st)∧w'.cell? ⟨nb,1,none⟩=some (.int .i64 r.ow)∧w'.cell? ⟨nb,2,none⟩=some (.string r.nm)∧w'.cell? ⟨nb,3,none⟩=some (.int .i64 r.dl)) (by kernel_rfl) ?_ (fun hHeld=>?_)
   ·exact⟨hc2,x3,e0,e1,e2,e3⟩
   refine tksX [0,1,2,3,4,5,6,7,8,9] 1 (by assumption) ?_;simp only[Z3,Z4,Z5,Zw,Zx];repeat(refine tkcX (v:=?_) ?_ ?_;rotate_left;(focus((intro w hSw;(try dsimp only at hSw);go_simp);(first|done|(with_reducible rfl))));(try simp only[Act.put]);(try simp only[Zv]))
   refine Xp ?_;obtain⟨w4,hrun,hmap4,hcg4,hsz4⟩:=(Hmw.o.ext (Yk W1).drew).put hlm hk Hst.o;unfold rcV at hrun;refine rdoX 10 (fun K hK=>?_);go_simp;refine hK.out _ _ ⟨(hcg4.cell (p:=⟨b,2,none⟩) hbW hne).trans hc2,(hcg4.cell (p:=⟨g,o+i*3+2,none⟩) hgW hgm).trans x3,(hcg4.cell (p:=⟨nb,0,none⟩) hnW hnm).trans e0,(hcg4.cell (p:=⟨nb,1,none⟩) hnW hnm).trans e1,(hcg4.cell (p:=⟨nb,2,none⟩) hnW hnm).trans e2,(hcg4.cell (p:=⟨nb,3,none⟩) hnW hnm).trans e3⟩ (fun hHeld=>?_);clear hK K;try simp only[Act.put,Zv,Zu,Zt]
   refine dneX ?_;have Hm4:=Y8 hmap4;have Hcg4:=Y8 (HcgW.o.trans ((Chg.refl (fun k=>k=m) W1).drew.trans hcg4));clear hHeld hmap4 hcg4 hsz4 hrun x3 hc2 e0 e1 e2 e3;go_simp;go_wp2_with fail;go_roundw;case rel=>exact⟨i+1,by omega,by go_num,by rw[take_at Hqi.o,Ch];exact Hm4.o,Hcg4.o⟩
   simp[intOf];omega
  have hdc2:decide ((i:Int)<(qs.length:Int))=false:=by simp;omega
  obtain rfl:i=qs.length:=by omega
  have hx9:Chg (· = m) w wr:=(Hxc.o.chg _).trans Hcg.o;have hrz:=(Hz1.o.ext Hxc1.o).chg Hcg.o (by omega);have hr9:=Hresp.o.chg Hcg.o (by have:=Hrb2.o;omega);obtain⟨z0,z1,z2,z3,z4,z5,z6,z7,zf,zl⟩:=hrz;obtain⟨r0,r1,r2,r3,r4,r5,r6,r7,rl⟩:=hr9;have hmp9:=Hmp.o;rw[Zm (Ym _)]at hmp9;have Hx9:=Y8 hx9;have Hmp9:=Y8 hmp9;clear hx9 hmp9;go_wp2_with fail;have hcf:Chg (· = m) w ((((((((wr.setCell ⟨rb,0,none⟩ (.int .i64 R.e)).setCell ⟨rb,1,none⟩ (.int .i64 R.at_)).setCell ⟨rb,2,none⟩ (.string R.nm)).setCell ⟨rb,3,none⟩ (.int .i64 R.rc.st)).setCell ⟨rb,4,none⟩ (.int .i64 R.rc.ow)).setCell ⟨rb,5,none⟩ (.string R.rc.nm)).setCell ⟨rb,6,none⟩ (.int .i64 R.rc.dl)).setCell ⟨rb,7,none⟩ (.int .i64 R.tick)):=by
   (repeat refine Chg.setCell ?_ (.inr (by rw[Hrb.o];exact Ym _)) _)
   exact Hx9.o
  have hcb:Chg (· = rb) wr ((((((((wr.setCell ⟨rb,0,none⟩ (.int .i64 R.e)).setCell ⟨rb,1,none⟩ (.int .i64 R.at_)).setCell ⟨rb,2,none⟩ (.string R.nm)).setCell ⟨rb,3,none⟩ (.int .i64 R.rc.st)).setCell ⟨rb,4,none⟩ (.int .i64 R.rc.ow)).setCell ⟨rb,5,none⟩ (.string R.rc.nm)).setCell ⟨rb,6,none⟩ (.int .i64 R.rc.dl)).setCell ⟨rb,7,none⟩ (.int .i64 R.tick)):=by
   (repeat refine Chg.setCell (S:=(· = rb)) ?_ (.inl rfl) _)
   exact Chg.refl _ _
  refine Ys (v:=Vw R) (by simp[results,results84,go_sem,Vw, *]) rfl ⟨by rw[HdoR.o],?_,hcf⟩;rw[HdoL.o];exact H.o.turn hcf (Hmp9.o.chg hcb (by omega))
