/- Lemmas of this claim: Ops, StabP, StabE, OrdA, OrdP, HP. Conditions: as named. -/
import Derived.Test.YtnbclgbicnpmnaaGreatA05
import Derived.Test.YtnbclgbicnpmnaaGreatA09
namespace Go.Proofs.YtnbclgbicnpmnaaGreat
open Go.RowKit Go.Sort Tryz
set_option maxHeartbeats 0
set_option maxRecDepth 100000
set_option linter.all false
structure Opn where
 cl:Int
 op:Int
 ttl:Int
 nv:Value
 ns:List Nm
 bad:Ax
 begun:Int
 dec:Int
 ans:Int
 res:Ax
def opC(o:Opn):List Value:=[.int .i64 o.cl,.int .i64 o.op,.int .i64 o.ttl,o.nv,.int .i64 o.bad.e,.int .i64 o.bad.at_,.string o.bad.nm,.int .i64 o.bad.rc.st,.int .i64 o.bad.rc.ow,.string o.bad.rc.nm,.int .i64 o.bad.rc.dl,.int .i64 o.bad.tick,.int .i64 o.begun,.int .i64 o.dec,.int .i64 o.ans,.int .i64 o.res.e,.int .i64 o.res.at_,.string o.res.nm,.int .i64 o.res.rc.st,.int .i64 o.res.rc.ow,.string o.res.rc.nm,.int .i64 o.res.rc.dl,.int .i64 o.res.tick]
def opV(o:Opn):Value:=.agg #[.int .i64 o.cl,.int .i64 o.op,.int .i64 o.ttl,o.nv,.int .i64 o.bad.e,.int .i64 o.bad.at_,.string o.bad.nm,.int .i64 o.bad.rc.st,.int .i64 o.bad.rc.ow,.string o.bad.rc.nm,.int .i64 o.bad.rc.dl,.int .i64 o.bad.tick,.int .i64 o.begun,.int .i64 o.dec,.int .i64 o.ans,.int .i64 o.res.e,.int .i64 o.res.at_,.string o.res.nm,.int .i64 o.res.rc.st,.int .i64 o.res.rc.ow,.string o.res.rc.nm,.int .i64 o.res.rc.dl,.int .i64 o.res.tick]
def Gj:List Opn→List Value
 | []=>[]
 | o::l=>opC o++Gj l
theorem Kv(o:Opn):(opC o).length=23:=rfl
theorem En:∀ l:List Opn,(Gj l).length=l.length*23
 | []=>rfl
 | o::l=>by rw[Gj,Zs,En l,Kv,Zl];omega
theorem Rr:∀ {l:List Opn} {j:Nat} {o:Opn},l[j]?=some o→∀ k,k<23→(Gj l)[j*23+k]?=(opC o)[k]?
 | [],j,o,h,_,_=>by simp at h
 | q::r,0,o,h,k,hk=>by
  have e:q=o:=by simpa using h
  rw[Gj,Ze (by rw[Kv];omega),show 0*23+k=k by omega,e]
 | q::r,j+1,o,h,k,hk=>by
  have:=Rr (l:=r) (j:=j) (o:=o) (by simpa using h) k hk;rw[Gj,Zd (by rw[Kv];omega),Kv,← this,show(j+1)*23+k-23=j*23+k by omega]
def V6(w:World)(S:Nat→Prop)(v:Value)(l:List Opn):Prop:=Rd w S 23 v l.length (Gj l)∧∀ o∈l,Vw w S o.nv o.ns
theorem V6.ext{w w':World}{S:Nat→Prop}{v:Value}{l:List Opn}(h:V6 w S v l)(x:Ext w w'):V6 w' S v l:=⟨Rd.ext h.1 x,fun p hp=>(h.2 p hp).ext x⟩
theorem V6.chg{S T:Nat→Prop}{w w':World}{v:Value}{l:List Opn}(h:V6 w S v l)(c:Chg T w w')(hd:∀ k,S k→¬ T k):V6 w' S v l:=⟨Rd.chg h.1 c hd,fun p hp=>Rd.chg (h.2 p hp) c hd⟩
theorem V6.shape{w:World}{S:Nat→Prop}{v:Value}{l:List Opn}(h:V6 w S v l):∃ A c,v=.slice A l.length c:=by
 obtain⟨_,A,c,hv,_⟩:=h.1;exact⟨A,c,hv⟩
def Uv(w:World)(b p:Nat)(o:Opn):Prop:=b<w.heap.size∧∀ k,k<23→w.cell? ⟨b,p+k,none⟩=(opC o)[k]?
theorem Uv.chg{S:Nat→Prop}{w w':World}{b p:Nat}{o:Opn}(h:Uv w b p o)(c:Chg S w w')(hb:¬ S b):Uv w' b p o :=
 ⟨Zk8 h.1 c.size,fun k hk=>(c.cell (p:=⟨b,p+k,none⟩) h.1 hb).trans (h.2 k hk)⟩
theorem Uv.ext{w w':World}{b p:Nat}{o:Opn}(h:Uv w b p o)(x:Ext w w'):Uv w' b p o:=h.chg (x.chg fun _=>False) (fun h=>h)
theorem Uv.begun{w:World}{b p:Nat}{o:Opn}(h:Uv w b p o):w.cell? ⟨b,p+12,none⟩=some (.int .i64 o.begun):=h.2 12 (by omega)
theorem Uv.dec{w:World}{b p:Nat}{o:Opn}(h:Uv w b p o):w.cell? ⟨b,p+13,none⟩=some (.int .i64 o.dec):=h.2 13 (by omega)
theorem Uv.ans{w:World}{b p:Nat}{o:Opn}(h:Uv w b p o):w.cell? ⟨b,p+14,none⟩=some (.int .i64 o.ans):=h.2 14 (by omega)
theorem V6.get{w:World}{S:Nat→Prop}{v:Value}{l:List Opn}(h:V6 w S v l){j:Nat}{o:Opn}(hj:l[j]?=some o) :
 ∃ g p c,v=.slice (some ⟨g,p,none⟩) l.length c∧l.length≤c∧c≤maxLen∧S g∧Uv w g (p+j*23) o∧Vw w S o.nv o.ns:=by
 obtain⟨g,p,c,hv,h1,h2,h3,h4,hc⟩:=h.1.at_ (Zr.1 hj).1;refine⟨g,p,c,hv,h1,h2,h3,⟨h4,fun k hk=>?_⟩,h.2 o (Zy hj)⟩;have q:=Rr hj k hk;have hk':k<(opC o).length:=by rw[Kv];exact hk
 rw[Zid,hc (j*23+k) (opC o)[k] (by rw[q];exact Zz hk')];exact(Zz hk').symm
theorem Zzf(o:Opn)(w:World):Calls prog 64 #[opV o] w fun e w'=>e=.returned (.bool (!(o.bad.e==0)))∧Ext w w':=by
 unfold opV;go_enter func64,ntmps64;go_wp2_with fail;go_ret;exact⟨rfl,(Yl w).alloc _⟩
def Oz(a b:Opn):Bool:=decide (0≤a.ans)&&decide (a.ans<b.begun)
theorem Zy4(a b:Opn)(w:World):Calls prog 19 #[opV a,opV b] w fun e w'=>e=.returned (.bool (Oz a b))∧Ext w w':=by
 unfold opV Oz;cases h1:decide (0≤a.ans)<;>cases h2:decide (a.ans<b.begun)
 all_goals
  go_enter func19,ntmps19;go_wp2_with fail;go_ret;exact⟨rfl,((Yl w).alloc _).alloc _⟩
def Kw(cl:Int)(o:Opn):Bool :=
 if o.cl<0∨cl≤o.cl∨o.begun<0 then false else if o.dec = -1 then o.ans == -1 else decide (o.begun<o.dec)&&((o.ans == -1)||decide (o.dec<o.ans))
section
open Go.Sort
section
variable {α:Type} [Inhabited α] {key:α→Int} {idx:α→Nat}
def Dy(idx:α→Nat)(n B f:Nat)(d:Array α):Prop:=∀ p q,f≤p→f≤q→p<n→q<n→p/B<q/B→idx d[p]! < idx d[q]!
theorem Dy.perm{n B f a b:Nat}{d d':Array α}(h:Dy idx n B f d)(hp:PermIn a b d d')(hb:b≤n)(hn:n=d.size)(hfa:f≤a)(hs:∀ p q,a≤p→p<b→a≤q→q<b→p/B=q/B):Dy idx n B f d':=by
 intro p q fp fq hpn hqn hlt;by_cases h1:a≤p∧p<b
 ·by_cases h2:a≤q∧q<b
  ·have:=hs p q h1.1 h1.2 h2.1 h2.2;omega
  rw[hp.2.1 q (by omega)];refine Zfr d d' a b (fun x=>idx x<idx d[q]!) (by omega) hp (fun k k1 k2=>h k q (by omega) fq (by omega) hqn ?_) p h1.1 h1.2;rw[hs k p k1 k2 h1.1 h1.2];exact hlt
 rw[hp.2.1 p (by omega)];by_cases h2:a≤q∧q<b
 ·refine Zfr d d' a b (fun x=>idx d[p]! < idx x) (by omega) hp (fun k k1 k2=>h p k fp (by omega) hpn (by omega) ?_) q h2.1 h2.2;rw[hs k q k1 k2 h2.1 h2.2];exact hlt
 rw[hp.2.1 q (by omega)];exact h p q fp fq hpn hqn hlt
theorem Dy.double{n B f:Nat}{d:Array α}(h:Dy idx n B f d):Dy idx n (2*B) f d:=fun p q h1 h2 h3 h4 h5=>h p q h1 h2 h3 h4 (by
 rw[Zgc,← Nat.div_div_eq_div_mul,← Nat.div_div_eq_div_mul]at h5;omega)
theorem Zw7{n B:Nat}{d:Array α}(h:∀ p q,p<q→q<n→idx d[p]! < idx d[q]!)(f:Nat):Dy idx n B f d:=fun p q _ _ h3 h4 h5=>h p q (by
 rcases Zis p q with hh|hh
 ·exact hh
 have:=Nat.div_le_div_right (c:=B) hh;omega) h4
theorem Uo{B k p:Nat}(h1:k*B≤p)(h2:p<(k+1)*B):p/B=k:=by
 have hB:0<B:=by
  rcases Zj4 B with h|h
  ·subst h;simp at h2
  exact h
 rw[Nat.div_eq_iff hB];rw[Zi8,Zhu]at h2;rw[Zgc]at h1 h2;constructor
 ·rw[Zgc]at h1;omega
 rw[Zgc]at h2;omega
structure Dz(key:α→Int)(idx:α→Nat)(n k:Nat)(d0 d:Array α):Prop where
 perm:PermIn 0 n d0 d
 done:∀ j,j<k→SortedIn (lxK key idx) (j*20) ((j+1)*20) d
 rest:∀ p q,k*20≤p→p<q→q<n→idx d[p]! < idx d[q]!
 rank:Dy idx n 20 0 d
theorem SortedIn.keep{lt:α→α→Bool}{a b:Nat}{d d':Array α}(h:SortedIn lt a b d)(he:∀ p,a≤p→p<b→d'[p]! = d[p]!):SortedIn lt a b d':=fun p q h1 h2 h3=>by
 rw[he p h1 (by omega),he q (by omega) h3];exact h p q h1 h2 h3
theorem Dz.start{n:Nat}{d:Array α}(h:∀ p q,p<q→q<n→idx d[p]! < idx d[q]!):Dz key idx n 0 d d :=
 ⟨Zhn _ _ _,fun j hj=>by omega,fun p q _ h2 h3=>h p q h2 h3,Zw7 h 0⟩
theorem Dz.step{n k b:Nat}{d0 d d':Array α}(h:Dz key idx n k d0 d)(hn:n=d.size)(hb1:k*20≤b)(hb2:b≤k*20+20)(hbn:b≤n)(hd:d'=insertionSort (ltK key) d (k*20) b) :
 PermIn 0 n d0 d'∧Dy idx n 20 0 d'∧SortedIn (lxK key idx) (k*20) b d'∧(∀ p,p<k*20∨b≤p→d'[p]! = d[p]!):=by
 rw[Lg (idx:=idx) (by omega) fun p q h1 h2 h3=>h.rest p q h1 h2 (by omega)]at hd;obtain⟨h1,h2⟩:=insertionSort_holds (lt:=lxK key idx) (Zyc key idx) d (k*20) b hb1 (by omega);rw[← hd]at h1 h2;refine⟨Zhy _ _ _ _ _ h.perm (Zg7 _ _ _ _ _ _ (Zjn _) hbn (by omega) h1),h.rank.perm h1 hbn hn (Zjn _) fun p q p1 p2 q1 q2=>?_,h2,fun p hp=>h1.2.1 p hp⟩;rw[Uo p1 (by omega),Uo q1 (by omega)]
theorem Dz.next{n k:Nat}{d0 d d':Array α}(h:Dz key idx n k d0 d)(hn:n=d.size)(hb:k*20+20≤n)(hd:d'=insertionSort (ltK key) d (k*20) (k*20+20)):Dz key idx n (k+1) d0 d':=by
 obtain⟨h1,h2,h3,h4⟩:=h.step hn (by omega) (Yn _) hb hd;refine⟨h1,fun j hj=>?_,fun p q p1 p2 p3=>?_,h2⟩
 ·by_cases e:j=k
  ·subst e;rw[Zi8,Zhu];exact h3
  exact SortedIn.keep (h.done j (by omega)) fun p p1 p2=>h4 p (.inl (by have:(j+1)*20≤k*20:=Zje _ (by omega);omega))
 rw[h4 p (.inr (by omega)),h4 q (.inr (by omega))];exact h.rest p q (by omega) p2 p3
structure Fu(key:α→Int)(idx:α→Nat)(n B:Nat)(d0 d:Array α):Prop where
 perm:PermIn 0 n d0 d
 done:∀ j,SortedIn (lxK key idx) (j*B) (min ((j+1)*B) n) d
 rank:Dy idx n B 0 d
theorem Dz.last{n k:Nat}{d0 d d':Array α}(h:Dz key idx n k d0 d)(hn:n=d.size)(hk:k*20≤n)(hb:n<k*20+20)(hd:d'=insertionSort (ltK key) d (k*20) n):Fu key idx n 20 d0 d':=by
 obtain⟨h1,h2,h3,h4⟩:=h.step hn hk (by omega) (Yn _) hd;refine⟨h1,fun j=>?_,h2⟩;rcases Zi2 j k with e|e|e
 ·have hm:(j+1)*20≤k*20:=Zje _ (by omega);rw[Zhp (by omega)];exact SortedIn.keep (h.done j e) fun p p1 p2=>h4 p (.inl (by omega))
 ·subst e;rw[Zhl (by omega)];exact h3
 intro p q p1 p2 p3;have:(k+1)*20≤j*20:=Zje _ (by omega);omega
structure Ut(key:α→Int)(idx:α→Nat)(n B k:Nat)(d0 d:Array α):Prop where
 perm:PermIn 0 n d0 d
 done:∀ j,j<k→SortedIn (lxK key idx) (j*(2*B)) ((j+1)*(2*B)) d
 rest:∀ j,2*k≤j→SortedIn (lxK key idx) (j*B) (min ((j+1)*B) n) d
 rank:Dy idx n B (k*(2*B)) d
 rank2:Dy idx n (2*B) 0 d
theorem Fu.mid{n B:Nat}{d0 d:Array α}(h:Fu key idx n B d0 d):Ut key idx n B 0 d0 d :=
 ⟨h.perm,fun j hj=>by omega,fun j _=>h.done j,by simpa using h.rank,h.rank.double⟩
theorem Zov(k B:Nat):k*(2*B)=2*k*B:=by rw[← Nat.mul_assoc,Zgc k 2]
theorem Ut.mg{n B k b:Nat}{d0 d:Array α}(h:Ut key idx n B k d0 d)(hB:0<B)(hm:k*(2*B)+B≤b)(hb:b≤k*(2*B)+2*B)(hbn:b≤n)(hfull:b=k*(2*B)+2*B∨b=n):Mg key idx (k*(2*B)) (k*(2*B)+B) b d:=by
 have e:=Zov k B;have e1:(2*k+1)*B=k*(2*B)+B:=by rw[Zi8,Zhu,← e]
 have e2:(2*k+1+1)*B=k*(2*B)+2*B:=by rw[Zi8,Zhu,e1];omega
 refine⟨?_,?_,fun p q h1 h2 h3 h4=>h.rank p q h1 (by omega) (by omega) (by omega) ?_⟩
 ·have:=h.rest (2*k) (Yn _)
  rwa [e1,Zhp (by omega),← e]at this
 ·have:=h.rest (2*k+1) (by omega);rw[e1,e2]at this;rcases hfull with hf|hf
  ·rw[← hf,Zhp hbn]at this;exact this
  rw[Zhl (by omega),← hf]at this;exact this
 have d1:p/B=2*k:=Uo (by omega) (by omega);have d2:2*k+1≤q/B:=by rw[Nat.le_div_iff_mul_le hB];omega
 omega
theorem Ut.step{n B k b:Nat}{d0 d d':Array α}(h:Ut key idx n B k d0 d)(hn:n=d.size)(hb:b≤k*(2*B)+2*B)(hbn:b≤n)(hm:Merged key idx (k*(2*B)) b d d') :
 PermIn 0 n d0 d'∧Dy idx n (2*B) 0 d'∧(∀ p,p<k*(2*B)∨b≤p→d'[p]! = d[p]!)∧SortedIn (lxK key idx) (k*(2*B)) b d':=by
 refine⟨Zhy _ _ _ _ _ h.perm (Zg7 _ _ _ _ _ _ (Zjn _) hbn (by omega) hm.1),h.rank2.perm hm.1 hbn hn (Zjn _) fun p q p1 p2 q1 q2=>?_,fun p hp=>hm.1.2.1 p hp,hm.2⟩;have e:(k+1)*(2*B)=k*(2*B)+2*B:=by rw[Zi8,Zhu]
 rw[Uo p1 (by omega),Uo q1 (by omega)]
theorem Ut.next{n B k:Nat}{d0 d d':Array α}(h:Ut key idx n B k d0 d)(hn:n=d.size)(hb:k*(2*B)+2*B≤n)(hm:Merged key idx (k*(2*B)) (k*(2*B)+2*B) d d'):Ut key idx n B (k+1) d0 d':=by
 obtain⟨h1,h2,h3,h4⟩:=h.step hn (Yn _) hb hm;have e:(k+1)*(2*B)=k*(2*B)+2*B:=by rw[Zi8,Zhu]
 refine⟨h1,fun j hj=>?_,fun j hj=>?_,?_,h2⟩
 ·by_cases ej:j=k
  ·subst ej;rw[e];exact h4
  exact SortedIn.keep (h.done j (by omega)) fun p p1 p2=>h3 p (.inl (by have:(j+1)*(2*B)≤k*(2*B):=Zje _ (by omega);omega))
 ·refine SortedIn.keep (h.rest j (by omega)) fun p p1 p2=>h3 p (.inr ?_)
  have:=Zje B hj;rw[Nat.mul_add,Zi8,← Zov]at this;omega
 intro p q p1 q1 p2 q2 hlt;rw[h3 p (.inr (by omega)),h3 q (.inr (by omega))];exact h.rank p q (by omega) (by omega) p2 q2 hlt
theorem Ut.fin{n B k:Nat}{d0 d:Array α}(h:Ut key idx n B k d0 d)(hb:n<k*(2*B)+2*B)(hl:SortedIn (lxK key idx) (k*(2*B)) n d):Fu key idx n (2*B) d0 d:=by
 refine⟨h.perm,fun j=>?_,h.rank2⟩;have e:(k+1)*(2*B)=k*(2*B)+2*B:=by rw[Zi8,Zhu]
 rcases Zi2 j k with ej|ej|ej
 ·intro p q p1 p2 p3;exact h.done j ej p q p1 p2 (by omega)
 ·subst ej;intro p q p1 p2 p3;exact hl p q p1 p2 (by omega)
 intro p q p1 p2 p3;have:(k+1)*(2*B)≤j*(2*B):=Zje _ (by omega);omega
theorem Ut.fin_one{n B k:Nat}{d0 d:Array α}(h:Ut key idx n B k d0 d)(hb:n≤k*(2*B)+B):Fu key idx n (2*B) d0 d:=by
 rcases Zj4 B with h0|hB
 ·subst h0;exact⟨h.perm,fun j p q p1 p2 p3=>by simp at p3,h.rank2⟩
 refine h.fin (by omega) ?_;have:=h.rest (2*k) (Yn _);rw[← Zov]at this;intro p q p1 p2 p3;refine this p q p1 p2 ?_;rw[Zi8,Zhu,← Zov];omega
theorem Ut.fin_two{n B k:Nat}{d0 d d':Array α}(h:Ut key idx n B k d0 d)(hn:n=d.size)(hm0:k*(2*B)≤n)(hb:n<k*(2*B)+2*B)(hm:Merged key idx (k*(2*B)) n d d'):Fu key idx n (2*B) d0 d':=by
 obtain⟨h1,h2,h3,h4⟩:=h.step hn (by omega) (Yn _) hm;refine⟨h1,fun j=>?_,h2⟩;have e:(k+1)*(2*B)=k*(2*B)+2*B:=by rw[Zi8,Zhu]
 rcases Zi2 j k with ej|ej|ej
 ·have hh:(j+1)*(2*B)≤k*(2*B):=Zje _ (by omega);rw[Zhp (by omega)];exact SortedIn.keep (h.done j ej) fun p p1 p2=>h3 p (.inl (by omega))
 ·subst ej;intro p q p1 p2 p3;exact h4 p q p1 p2 (by omega)
 intro p q p1 p2 p3;have:(k+1)*(2*B)≤j*(2*B):=Zje _ (by omega);omega
theorem Fu.whole{n B:Nat}{d0 d:Array α}(h:Fu key idx n B d0 d)(hB:n≤B):Merged key idx 0 n d0 d:=by
 refine⟨h.perm,fun p q p1 p2 p3=>?_⟩;have:=h.done 0;rw[Zfv,Zjd,Zhu,Zhl hB]at this;exact this p q p1 p2 p3
end
end
section
open Go.Shelf Go.RowKit Go.Lib Go.Sort
variable {α:Type} [Inhabited α]
theorem Zvq(enc:α→Value)(key:α→Int)(idx:α→Nat)(sz blk off cap:Nat)(cb:Array Value)(d0:Array α)(w0:World)(hcmp:CmpLays1 prog 67 cb enc (cfK key) blk off sz w0)(R:Row1 enc w0 blk off d0)(hs:d0.size=sz)(hsz:sz≤1000000000000000000)
 (hasc:∀ p q,p<q→q<sz→idx d0[p]! < idx d0[q]!) :
 Calls prog 99 #[.slice (some ⟨blk,off,none⟩) sz cap,.int .i64 sz,.func (.func 67) #[] cb] w0 (Uu enc key idx w0 sz blk off 0 sz d0):=by
 have HC:Aside _:=hcmp;have HI:Aside (Dz key idx sz 0 d0 d0):=Dz.start hasc;have S0:Aside (SW enc w0 blk off d0 w0):=SW.start R.hH;have h62:sz<4611686018427387904:=by omega
 clear hcmp hasc;go_enter func99,ntmps99;go_wp2_with fail;go_loopg [7,8] sz (fun g1 va vb wr=>∃ (k:Nat) (d:Array α),va=.int .i64 ((k*20:Nat):Int)∧vb=.int .i64 ((k*20+20:Nat):Int)∧k*20≤sz∧sz-k*20≤g1∧d.size=sz∧Aside (SW enc w0 blk off d wr)∧Aside (Dz key idx sz k d0 d));case atStart=>exact⟨0,d0,by go_num,by go_num,by omega,by omega,hs,S0,HI⟩
 clear S0 HI;obtain⟨k,d,rfl,rfl,hk,hg,hd,S1,HI⟩:=hrel;obtain⟨a,ha⟩:=gnX (k*20);have HA:=Zj7 ha;rw[ha]at hk hg⊢;clear ha;by_cases hlt:a+20≤sz
 ·have hltz:((a+20:Nat):Int)≤(sz:Int):=by omega
  have hltz2:(a:Int)+20≤(sz:Int):=by omega
  go_wp2_with fail;refine(Es enc key sz blk off cap a (a+20) cb d0 d w0 _ HC.out R hs hd S1.out (by omega) hlt h62).mono ?_;rintro x w2 ⟨rfl,S2⟩;have hd2:(insertionSort (ltK key) d a (a+20)).size=sz:=by
   have:=(HI.out.step (k:=k) (b:=k*20+20) hd.symm (by omega) (by omega) (by rw[HA.out];exact hlt) rfl).1.1;rw[HA.out]at this;omega
  have HI2:Aside (Dz key idx sz (k+1) d0 (insertionSort (ltK key) d a (a+20))):=HI.out.next hd.symm (by rw[HA.out];exact hlt) (by rw[HA.out]);have S2':Aside _:=S2;obtain⟨d2,hd2e⟩:=gnX (insertionSort (ltK key) d a (a+20));rw[hd2e]at hd2 HI2 S2';have HA2:(k+1)*20=a+20:=by rw[← HA.out,Zi8]
  clear S2 S1 HI hd2e;go_wp2_with fail;go_roundg (sz-(a+20));case measure=>omega
  case rel=>exact⟨k+1,d2,by rw[HA2];simp,by rw[HA2];go_num,by omega,by omega,hd2,S2',HI2⟩
 have hltz:¬ ((a+20:Nat):Int)≤(sz:Int):=by omega
 have hltz2:¬ (a:Int)+20≤(sz:Int):=by omega
 go_wp2_with fail;refine(Es enc key sz blk off cap a sz cb d0 d w0 _ HC.out R hs hd S1.out hk (Yn _) h62).mono ?_;rintro x w2 ⟨rfl,S2⟩;have HM:Aside (Fu key idx sz 20 d0 (insertionSort (ltK key) d a sz)):=HI.out.last hd.symm (by rw[HA.out];exact hk) (by rw[HA.out];omega) (by rw[HA.out]);have S2':Aside _:=S2;obtain⟨d2,hd2e⟩:=gnX (insertionSort (ltK key) d a sz);rw[hd2e]at HM S2';have hd2:d2.size=sz:=by have:=HM.out.perm.1;omega
 clear S2 S1 HI hd2e HA hd hk hlt hltz hltz2 hg;go_wp2_with fail;go_loopg [6,7,8,9] sz (fun g1 vB va vb vm wr=>∃ (B:Nat) (d:Array α),vB=.int .i64 (B:Int)∧0<B∧B≤2000000000000000000∧sz-B≤g1∧d.size=sz∧Aside (SW enc w0 blk off d wr)∧Aside (Fu key idx sz B d0 d));case atStart=>exact⟨20,d2,by go_num,by omega,by omega,by omega,hd2,S2',HM⟩
 clear S2' HM hd2;obtain⟨B,d,rfl,hB0,hB1,hg,hd,S1,HM⟩:=hrel;by_cases hlt:B<sz
 ·have hltz:(B:Int)<(sz:Int):=by omega
  obtain⟨C,hC1,hC2⟩:∃ C,C≤2*B∧2*B≤C:=⟨2*B,Yn _,Yn _⟩;have rC:2*(B:Int)=(C:Int):=by omega
  have rC2:(B:Int)*2=(C:Int):=by omega
  have HN:Aside (Ut key idx sz B 0 d0 d):=HM.out.mid;clear HM;go_wp2_with fail;go_loopg [7,8] sz (fun g2 va vb wr2=>∃ (k a:Nat) (d:Array α),va=.int .i64 (a:Int)∧vb=.int .i64 ((a+C:Nat):Int)∧Aside (k*(2*B)=a)∧a≤sz∧sz-a≤g2∧d.size=sz∧Aside (SW enc w0 blk off d wr2)∧Aside (Ut key idx sz B k d0 d));case atStart=>exact⟨0,0,d,by go_num,by simp,(show 0*(2*B)=0 from Zfv _),by omega,by omega,hd,S1,HN⟩
  clear S1 HN hd;obtain⟨k,a,d,rfl,rfl,HA,hk,hg2,hd,S1,HN⟩:=hrel;have hCB:C=2*B:=by omega
  have HCB:Aside _:=hCB;clear hCB;by_cases hlt2:a+C≤sz
  ·have hz1:(a:Int)+(C:Int)≤(sz:Int):=by omega
   have hz2:((a+C:Nat):Int)≤(sz:Int):=by omega
   obtain⟨m,hm1,hm2⟩:∃ m,m≤a+B∧a+B≤m:=⟨a+B,Yn _,Yn _⟩;have rm:(a:Int)+(B:Int)=(m:Int):=by omega
   have HM2:Aside (Mg key idx a m (a+C) d):=by
    have:=HN.out.mg hB0 (b:=a+C) (by rw[HA.out];omega) (by rw[HA.out];omega) hlt2 (.inl (by rw[HA.out];omega));rw[HA.out]at this;rw[show m=a+B by omega];exact this
   go_wp2_with fail;refine(merge_any enc key idx sz blk off cap cb d0 w0 HC.out R hs h62 (a+C) a m (a+C) d _ (by omega) (by omega) (by omega) hlt2 hd S1.out HM2.out).mono ?_;rintro x w3 ⟨rfl,d3,S3,hs3,hM3⟩;have HN3:Aside (Ut key idx sz B (k+1) d0 d3):=HN.out.next hd.symm (by rw[HA.out];have:=HCB.out;omega) (by rw[HA.out,← HCB.out];exact hM3);have S3':Aside _:=S3;have HA3:Aside ((k+1)*(2*B)=a+C):=by show _=_;rw[Zi8,Zhu,HA.out,HCB.out]
   clear S3 hM3 HN S1 HM2 rm;go_wp2_with fail;go_roundg (sz-(a+C));case measure=>omega
   case rel=>exact⟨k+1,a+C,d3,rfl,by go_num,HA3,hlt2,Yn _,hs3,S3',HN3⟩
  have hz1:¬ (a:Int)+(C:Int)≤(sz:Int):=by omega
  have hz2:¬ ((a+C:Nat):Int)≤(sz:Int):=by omega
  obtain⟨m,hm1,hm2⟩:∃ m,m≤a+B∧a+B≤m:=⟨a+B,Yn _,Yn _⟩;have rm:(a:Int)+(B:Int)=(m:Int):=by omega
  by_cases hms:m<sz
  ·have hz3:(m:Int)<(sz:Int):=by omega
   have HM2:Aside (Mg key idx a m sz d):=by
    have:=HN.out.mg hB0 (b:=sz) (by rw[HA.out];omega) (by rw[HA.out];omega) (Yn _) (.inr rfl);rw[HA.out]at this;rw[show m=a+B by omega];exact this
   go_wp2_with fail;refine(merge_any enc key idx sz blk off cap cb d0 w0 HC.out R hs h62 sz a m sz d _ (by omega) (by omega) (by omega) (Yn _) hd S1.out HM2.out).mono ?_;rintro x w3 ⟨rfl,d3,S3,hs3,hM3⟩;have HF:Aside (Fu key idx sz C d0 d3):=by
    have:=HN.out.fin_two hd.symm (by rw[HA.out];exact hk) (by rw[HA.out,← HCB.out];omega) (by rw[HA.out];exact hM3);rw[HCB.out];exact this
   have S3':Aside _:=S3;clear S3 hM3 HN S1 HM2 rm;go_wp2_with fail;go_roundg (sz-C);case measure=>omega
   case rel=>exact⟨C,d3,by go_num,by omega,by omega,Yn _,hs3,S3',HF⟩
  have hz3:¬ (m:Int)<(sz:Int):=by omega
  have HF:Aside (Fu key idx sz C d0 d):=by
   have:=HN.out.fin_one (by rw[HA.out];omega);rw[HCB.out];exact this
  clear HN;go_wp2_with fail;go_roundg (sz-C);case measure=>omega
  case rel=>exact⟨C,d,by go_num,by omega,by omega,Yn _,hd,S1,HF⟩
 have hltz:¬ (B:Int)<(sz:Int):=by omega
 go_wp2_with fail;go_end0;exact⟨rfl,d,S1.out,hd,HM.out.whole (by omega)⟩
theorem M9(enc:α→Value)(key:α→Int)(idx:α→Nat)(sz blk off cap:Nat)(cb:Array Value)(d0:Array α)(w0:World)(hcmp:CmpLays1 prog 67 cb enc (cfK key) blk off sz w0)(R:Row1 enc w0 blk off d0)(hs:d0.size=sz)(hsz:sz≤1000000000000000000)
 (hasc:∀ p q,p<q→q<sz→idx d0[p]! < idx d0[q]!) :
 Calls prog 66 #[.slice (some ⟨blk,off,none⟩) sz cap,.func (.func 67) #[] cb] w0 (Uu enc key idx w0 sz blk off 0 sz d0):=by
 have HS:Aside _:=Zvq enc key idx sz blk off cap cb d0 w0 hcmp R hs hsz hasc;clear hcmp hasc R;go_enter func66,ntmps66;go_wp2_with fail;refine Zhx HS.out ?_;rintro x w2 ⟨rfl,d,S,h1,h2⟩;have S':Aside _:=S;have H2:Aside _:=h2;clear S h2;go_wp2_with fail;go_end0;exact⟨rfl,d,S'.out,h1,H2.out⟩
end
open Go.RowKit Go.Sort Go.Shelf
def cfI(x y:Int):Int:=if x<y then -1 else if y<x then 1 else 0
theorem Lf(x:Int)(w:World):Calls prog 100 #[.int .i64 x] w fun e w'=>e=.returned (.bool false)∧w=w':=by
 go_enter func100,ntmps100;go_wp2;go_ret;simp
theorem Cu(x y:Int)(w:World):Calls prog 68 #[.int .i64 x,.int .i64 y] w fun e w'=>e=.returned (.int .i64 (cfI x y))∧w=w':=by
 by_cases h1:x<y
 ·have H:=Y4 (show cfI x y = -1 by simp[cfI,h1]);go_enter func68,ntmps68;go_wp2_with (go_at_call 100;refine(Lf _ _).mono ?_;rintro e w' ⟨rfl,rfl⟩);go_ret;exact⟨by rw[H.o];rfl,rfl⟩
 by_cases h2:y<x
 ·have H:=Y4 (show cfI x y=1 by simp[cfI,h1,h2]);go_enter func68,ntmps68;go_wp2_with (go_at_call 100;refine(Lf _ _).mono ?_;rintro e w' ⟨rfl,rfl⟩);go_ret;exact⟨by rw[H.o];rfl,rfl⟩
 have H:=Y4 (show cfI x y=0 by simp[cfI,h1,h2]);go_enter func68,ntmps68;go_wp2_with (go_at_call 100;refine(Lf _ _).mono ?_;rintro e w' ⟨rfl,rfl⟩);go_ret;exact⟨by rw[H.o];rfl,rfl⟩
theorem Zvw{P:Program}{f:FuncId}{args:Array Value}{w:World}{v:Value}(h:Calls P f args w fun e w'=>e=.returned v∧w=w'):Calls P f args w fun e w'=>e=.returned v∧∃ q os',w'=grow (w.drewN q) os' :=
 h.mono fun _ _ ⟨he,hw⟩=>⟨he,0,#[],by rw[grow_empty,← hw];rfl⟩
theorem Cx{S:Nat→Prop}(B i j:Nat)(A:Option Addr)(C:Nat)(os:List Opn)(a b:Opn)(W:World)(hB:W.cell? ⟨B,0,none⟩=some (.slice A os.length C))(ho:V6 W S (.slice A os.length C) os)(ha:os[i]?=some a)(hb:os[j]?=some b) :
 Calls prog 67 #[.int .i64 i,.int .i64 j,.pointer (some ⟨B,0,none⟩)] W fun e w'=>e=.returned (.int .i64 (cfI a.dec b.dec))∧∃ q os',w'=grow (W.drewN q) os':=by
 have mixed:=Gl;obtain⟨g,p,c,hv,h1,h2,_,hA,_⟩:=ho.get ha;obtain⟨g',p',c',hv',_,_,_,hA',_⟩:=ho.get hb;simp only[Ye,Zjj]at hv hv';obtain⟨rfl,rfl⟩:=hv;simp only[Yd,Zjp,Zj6]at hv';obtain⟨⟨rfl,rfl⟩,rfl⟩:=hv';have hi:=(Zr.1 ha).1;have hj:=(Zr.1 hb).1;have hBl:=lt_of_cell hB;have kB:=fun n os=>cell_grown (w:=W) hBl hB n os
 have ka:=fun n os=>cell_grown (w:=W) (a:=⟨g,p+i*23+13,none⟩) hA.1 hA.dec n os
 have kb:=fun n os=>cell_grown (w:=W) (a:=⟨g,p+j*23+13,none⟩) hA'.1 hA'.dec n os
 have hc:=fun n os=>Zvw (Cu a.dec b.dec (grow (W.drewN n) os))
 have q1:(0:Int)≤(i:Int):=by omega
 have q2:(i:Int)<(os.length:Int):=by omega
 have q3:(0:Int)≤(j:Int):=by omega
 have q4:(j:Int)<(os.length:Int):=by omega
 obtain⟨n,hn⟩:=gnX (os.length);rw[hn]at q2 q4 kB;clear hn ha hb hA hA' ho hB h1 hi hj;go_enter func67,ntmps67;go_wp2_with fail;go_quiet_grown (first|(go_at_call 68;refine Calls.grown_of (hc _ _)));go_wp2_with fail;go_ret;exact⟨rfl,_,_,rfl⟩
def Km(os:List Opn)(i:Nat):Int:=match os[i]? with|some o=>o.dec|none=>-1
def Fs(os:List Opn)(i:Nat):Bool:=Km os i != -1
theorem Vb{os:List Opn}{i:Nat}{o:Opn}(h:os[i]?=some o):Km os i=o.dec:=by simp[Km,h]
theorem Du{os:List Opn}{i:Nat}(h:Fs os i=true):i<os.length:=by
 unfold Fs Km at h;cases e:os[i]? with
 | none=>rw[e]at h;simp at h
 | some o=>exact(Zr.1 e).1
def lxO(os:List Opn)(i j:Nat):Bool:=decide (Km os i<Km os j∨Km os i=Km os j∧i<j)
structure Zxf(os:List Opn)(l:List Nat):Prop where
 asc:l.Pairwise (fun i j=>lxO os i j=true)
 mem:∀ i,i∈l↔Fs os i=true
theorem Uc{α:Type}{R:α→α→Prop}(irr:∀ x,¬ R x x)(asy:∀ x y,R x y→¬ R y x):∀ {a b:List α},a.Pairwise R→b.Pairwise R→(∀ x,x∈a↔x∈b)→a=b
 | [],[],_,_,_=>rfl
 | [],y::b,_,_,h=>by have:=(h y).2 (Zhj ..);simp at this
 | x::a,[],_,_,h=>by have:=(h x).1 (Zhj ..);simp at this
 | x::a,y::b,ha,hb,h=>by
  rw[Zj5]at ha hb;have e:x=y:=by
   have h1:=(h x).1 (Zhj ..);have h2:=(h y).2 (Zhj ..);rcases Zg.1 h1 with e|h1
   ·exact e
   rcases Zg.1 h2 with e|h2
   ·exact e.symm
   exact absurd (ha.1 y h2) (asy _ _ (hb.1 x h1))
  subst e;congr 1;refine Uc irr asy ha.2 hb.2 fun z=>?_
  constructor
  ·intro hz;rcases Zg.1 ((h z).1 (Zhb _ hz))with e|h1
   ·subst e;exact absurd (ha.1 z hz) (irr z)
   exact h1
  intro hz;rcases Zg.1 ((h z).2 (Zhb _ hz))with e|h1
  ·subst e;exact absurd (hb.1 z hz) (irr z)
  exact h1
theorem Zxf.unique{os:List Opn}{a b:List Nat}(ha:Zxf os a)(hb:Zxf os b):a=b :=
 Uc (fun x=>by simp[lxO]) (fun x y=>by simp only[lxO,Zjm];omega) ha.asc hb.asc fun x=>by rw[ha.mem,hb.mem]
def Ak(os:List Opn)(i:Nat):List Nat:=(List.range i).filter (Fs os)
theorem Sg(os:List Opn)(i:Nat):Ak os (i+1)=if Fs os i then Ak os i++[i]else Ak os i:=by
 unfold Ak;rw[Zh9,Zhi];by_cases h:Fs os i=true<;>simp[h]
theorem P3(os:List Opn)(i:Nat):(Ak os i).length≤i:=by
 have:=List.length_filter_le (Fs os) (List.range i);simpa[Ak]using this
theorem Fh{os:List Opn}{i j:Nat}:j∈Ak os i↔j<i∧Fs os j=true:=by simp[Ak]
theorem P2(os:List Opn)(i:Nat):(Ak os i).Pairwise (· < ·):=List.Pairwise.filter _ List.pairwise_lt_range
def Kf(os:List Opn):List Nat:=(Ak os os.length).mergeSort (fun i j=>!lxO os j i)
theorem Jn(os:List Opn):Zxf os (Kf os):=by
 have hs:(Kf os).Pairwise (fun i j=>(!lxO os j i)=true):=List.pairwise_mergeSort
  (fun a b c h1 h2=>by simp only[Zig,lxO,Zji]at h1 h2⊢;omega)
  (fun a b=>by simp only[Zhv,Zig,lxO,Zji];omega) _
 have hp:=List.mergeSort_perm (Ak os os.length) (fun i j=>!lxO os j i);have hn:(Kf os).Nodup:=hp.nodup_iff.2 ((P2 os os.length).imp fun h=>Zgs h);refine⟨?_,fun i=>?_⟩
 ·refine(hs.and hn).imp fun {a b} ⟨h1,h2⟩=>?_
  simp only[Zig,lxO,Zji,Zjm]at h1⊢;omega
 rw[Kf,hp.mem_iff,Fh];exact⟨fun h=>h.2,fun h=>⟨Du h,h⟩⟩
theorem Zy1(os:List Opn):(Kf os).length≤os.length:=by
 rw[Kf,List.length_mergeSort];exact P3 _ _
theorem Zpe{os:List Opn}{i:Nat}(h:i∈Kf os):∃ o,os[i]?=some o:=by
 have:=Du (((Jn os).mem i).1 h);exact⟨os[i],Zz this⟩
def lastOf(os:List Opn):Nat→Int→Option Opn
 | 0,_=>none
 | i+1,c=>match os[i]? with|some o=>if o.cl=c then some o else lastOf os i c|none=>lastOf os i c
def K4(os:List Opn)(i:Nat)(c:Int):Option Int:=(lastOf os i c).map Opn.ans
def seenD(os:List Opn)(i:Nat)(d:Int):Bool:=(os.take i).any fun o=>o.dec==d
def Zui(os:List Opn)(i:Nat)(o:Opn):Bool:=match os[i-1]? with|some p=>decide (0<i)&&decide (o.begun≤p.begun)|none=>false
def Di(os:List Opn)(i:Nat)(o:Opn):Bool:=match K4 os i o.cl with|some a=>a == -1||decide (o.begun≤a)|none=>false
def okAt(cl:Int)(os:List Opn)(i:Nat):Bool:=match os[i]? with|some o=>Kw cl o&&!Zui os i o&&!(o.dec != -1&&seenD os i o.dec)&&!Di os i o|none=>true
def Qq(cl cp:Int)(os:List Opn):Int×Int :=
 if V7 cl cp≠0 then(0,V7 cl cp)else if 4096<os.length then(0,7)else match(List.range os.length).find? (fun i=>!okAt cl os i)with|some i=>((i:Int),4)|none=>(0,0)
theorem Lp{p:Nat→Bool}{n i:Nat}(hi:i<n)(hp:p i=true)(hb:∀ j,j<i→p j=false):(List.range n).find? p=some i:=by
 have e:List.range n=List.range i++(i::(List.range' (i+1) (n-i-1))):=by
  rw[List.range_eq_range',List.range_eq_range',← List.range'_succ,show n=i+(n-i) by omega];rw[← List.range'_append_1];simp only[Zjd,Zg6];congr 2;omega
 rw[e,List.find?_append];have h1:(List.range i).find? p=none:=by
  rw[List.find?_eq_none];intro x hx;rw[hb x (Zj9.1 hx)];simp
 rw[h1];simp[hp]
theorem Zx7{cl cp:Int}{os:List Opn}(hc:V7 cl cp=0)(hl:¬ 4096<os.length){i:Nat}(hi:i<os.length)(hb:okAt cl os i=false)(ho:∀ j,j<i→okAt cl os j=true):Qq cl cp os=((i:Int),4):=by
 unfold Qq;rw[Zk9 (by omega),Zk9 hl,Lp hi (by rw[hb];rfl) (fun j hj=>by rw[ho j hj];rfl)]
theorem Bw{cl cp:Int}{os:List Opn}(hc:V7 cl cp=0)(hl:¬ 4096<os.length)(ho:∀ j,j<os.length→okAt cl os j=true):Qq cl cp os=(0,0):=by
 unfold Qq;rw[Zk9 (by omega),Zk9 hl];have:(List.range os.length).find? (fun i=>!okAt cl os i)=none:=by
  rw[List.find?_eq_none];intro x hx;rw[ho x (Zj9.1 hx)];simp
 rw[this]
theorem Zvv(os:List Opn){i:Nat}{o:Opn}(h:os[i]?=some o)(d:Int):seenD os (i+1) d=true↔d=o.dec∨seenD os i d=true:=by
 unfold seenD;rw[Za,h,Zgm];simp only[Zgz,List.any_cons,List.any_nil,Bool.or_false,Zhv,Zfs];constructor
 ·rintro(h|h)
  ·exact .inr h
  exact .inl h.symm
 rintro(h|h)
 ·exact .inr h.symm
 exact .inl h
theorem Tp(os:List Opn){i:Nat}{o:Opn}(h:os[i]?=some o)(c:Int):K4 os (i+1) c=if o.cl=c then some o.ans else K4 os i c:=by
 have e:lastOf os (i+1) c=if o.cl=c then some o else lastOf os i c:=by
  show(match os[i]? with|some o=>if o.cl=c then some o else lastOf os i c|none=>lastOf os i c)=_;rw[h]
 unfold K4;rw[e];by_cases hc:o.cl=c
 ·rw[Zjx hc,Zjx hc];rfl
 rw[Zk9 hc,Zk9 hc]
