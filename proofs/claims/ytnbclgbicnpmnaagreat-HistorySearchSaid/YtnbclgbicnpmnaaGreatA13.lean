/- Lemmas of this claim: Ops, StabP, StabE, OrdA, OrdP, HP. Conditions: as named. -/
import Derived.Test.YtnbclgbicnpmnaaGreatA03
import Derived.Test.YtnbclgbicnpmnaaGreatA04
import Derived.Test.YtnbclgbicnpmnaaGreatA05
import Derived.Test.YtnbclgbicnpmnaaGreatA11
import Derived.Test.YtnbclgbicnpmnaaGreatA12
namespace Go.Proofs.YtnbclgbicnpmnaaGreat
open Go.RowKit Go.Sort
set_option maxHeartbeats 0
set_option maxRecDepth 100000
set_option linter.all false
structure Opn where
 cl:Int
 op:Int
 ttl:Int
 nv:Value
 ns:List Nm
 bad:Ay
 begun:Int
 dec:Int
 ans:Int
 res:Ay
def opC(o:Opn):List Value:=[.int .i64 o.cl,.int .i64 o.op,.int .i64 o.ttl,o.nv,.int .i64 o.bad.e,.int .i64 o.bad.at_,.string o.bad.nm,.int .i64 o.bad.rc.st,.int .i64 o.bad.rc.ow,.string o.bad.rc.nm,.int .i64 o.bad.rc.dl,.int .i64 o.bad.tick,.int .i64 o.begun,.int .i64 o.dec,.int .i64 o.ans,.int .i64 o.res.e,.int .i64 o.res.at_,.string o.res.nm,.int .i64 o.res.rc.st,.int .i64 o.res.rc.ow,.string o.res.rc.nm,.int .i64 o.res.rc.dl,.int .i64 o.res.tick]
def opV(o:Opn):Value:=.agg #[.int .i64 o.cl,.int .i64 o.op,.int .i64 o.ttl,o.nv,.int .i64 o.bad.e,.int .i64 o.bad.at_,.string o.bad.nm,.int .i64 o.bad.rc.st,.int .i64 o.bad.rc.ow,.string o.bad.rc.nm,.int .i64 o.bad.rc.dl,.int .i64 o.bad.tick,.int .i64 o.begun,.int .i64 o.dec,.int .i64 o.ans,.int .i64 o.res.e,.int .i64 o.res.at_,.string o.res.nm,.int .i64 o.res.rc.st,.int .i64 o.res.rc.ow,.string o.res.rc.nm,.int .i64 o.res.rc.dl,.int .i64 o.res.tick]
def Um:List Opn→List Value
 | []=>[]
 | o::l=>opC o++Um l
theorem Qg(o:Opn):(opC o).length=23:=rfl
theorem Gv:∀ l:List Opn,(Um l).length=l.length*23
 | []=>rfl
 | o::l=>by rw[Um,Zs,Gv l,Qg,Zl];omega
theorem Lo:∀ {l:List Opn} {j:Nat} {o:Opn},l[j]?=some o→∀ k,k<23→(Um l)[j*23+k]?=(opC o)[k]?
 | [],j,o,h,_,_=>by simp at h
 | q::r,0,o,h,k,hk=>by
  have e:q=o:=by simpa using h
  rw[Um,Ze (by rw[Qg];omega),show 0*23+k=k by omega,e]
 | q::r,j+1,o,h,k,hk=>by
  have:=Lo (l:=r) (j:=j) (o:=o) (by simpa using h) k hk;rw[Um,Zd (by rw[Qg];omega),Qg,← this,show(j+1)*23+k-23=j*23+k by omega]
def Vy(w:World)(S:Nat→Prop)(v:Value)(l:List Opn):Prop:=Rd w S 23 v l.length (Um l)∧∀ o∈l,Wf w S o.nv o.ns
theorem Vy.ext{w w':World}{S:Nat→Prop}{v:Value}{l:List Opn}(h:Vy w S v l)(x:Ext w w'):Vy w' S v l:=⟨Rd.ext h.1 x,fun p hp=>(h.2 p hp).ext x⟩
theorem Vy.chg{S T:Nat→Prop}{w w':World}{v:Value}{l:List Opn}(h:Vy w S v l)(c:Chg T w w')(hd:∀ k,S k→¬ T k):Vy w' S v l:=⟨Rd.chg h.1 c hd,fun p hp=>Rd.chg (h.2 p hp) c hd⟩
theorem Vy.shape{w:World}{S:Nat→Prop}{v:Value}{l:List Opn}(h:Vy w S v l):∃ A c,v=.slice A l.length c:=by
 obtain⟨_,A,c,hv,_⟩:=h.1;exact⟨A,c,hv⟩
def Kc(w:World)(b p:Nat)(o:Opn):Prop:=b<w.heap.size∧∀ k,k<23→w.cell? ⟨b,p+k,none⟩=(opC o)[k]?
theorem Kc.chg{S:Nat→Prop}{w w':World}{b p:Nat}{o:Opn}(h:Kc w b p o)(c:Chg S w w')(hb:¬ S b):Kc w' b p o :=
 ⟨Zlr h.1 c.size,fun k hk=>(c.cell (p:=⟨b,p+k,none⟩) h.1 hb).trans (h.2 k hk)⟩
theorem Kc.ext{w w':World}{b p:Nat}{o:Opn}(h:Kc w b p o)(x:Ext w w'):Kc w' b p o:=h.chg (x.chg fun _=>False) (fun h=>h)
theorem Kc.begun{w:World}{b p:Nat}{o:Opn}(h:Kc w b p o):w.cell? ⟨b,p+12,none⟩=some (.int .i64 o.begun):=h.2 12 (by omega)
theorem Kc.dec{w:World}{b p:Nat}{o:Opn}(h:Kc w b p o):w.cell? ⟨b,p+13,none⟩=some (.int .i64 o.dec):=h.2 13 (by omega)
theorem Kc.ans{w:World}{b p:Nat}{o:Opn}(h:Kc w b p o):w.cell? ⟨b,p+14,none⟩=some (.int .i64 o.ans):=h.2 14 (by omega)
theorem Vy.get{w:World}{S:Nat→Prop}{v:Value}{l:List Opn}(h:Vy w S v l){j:Nat}{o:Opn}(hj:l[j]?=some o) :
 ∃ g p c,v=.slice (some ⟨g,p,none⟩) l.length c∧l.length≤c∧c≤maxLen∧S g∧Kc w g (p+j*23) o∧Wf w S o.nv o.ns:=by
 obtain⟨g,p,c,hv,h1,h2,h3,h4,hc⟩:=h.1.at_ (Zr.1 hj).1;refine⟨g,p,c,hv,h1,h2,h3,⟨h4,fun k hk=>?_⟩,h.2 o (Zy hj)⟩;have q:=Lo hj k hk;have hk':k<(opC o).length:=by rw[Qg];exact hk
 rw[Zki,hc (j*23+k) (opC o)[k] (by rw[q];exact Zz hk')];exact(Zz hk').symm
theorem Zzx(o:Opn)(w:World):Calls Tryz.prog 64 #[opV o] w fun e w'=>e=.returned (.bool (!(o.bad.e==0)))∧Ext w w':=by
 unfold opV;go_enter Tryz.func64,Tryz.ntmps64;go_wp2_with fail;go_ret;exact⟨rfl,(Yn w).alloc _⟩
def Ba(a b:Opn):Bool:=decide (0≤a.ans)&&decide (a.ans<b.begun)
theorem Zqc(a b:Opn)(w:World):Calls Tryz.prog 19 #[opV a,opV b] w fun e w'=>e=.returned (.bool (Ba a b))∧Ext w w':=by
 unfold opV Ba;cases h1:decide (0≤a.ans)<;>cases h2:decide (a.ans<b.begun)
 all_goals
  go_enter Tryz.func19,Tryz.ntmps19;go_wp2_with fail;go_ret;exact⟨rfl,((Yn w).alloc _).alloc _⟩
def Vq(cl:Int)(o:Opn):Bool :=
 if o.cl<0∨cl≤o.cl∨o.begun<0 then false else if o.dec = -1 then o.ans == -1 else decide (o.begun<o.dec)&&((o.ans == -1)||decide (o.dec<o.ans))
section
open Go.Sort
section
variable {α:Type} [Inhabited α] {key:α→Int} {idx:α→Nat}
def Ek(idx:α→Nat)(n B f:Nat)(d:Array α):Prop:=∀ p q,f≤p→f≤q→p<n→q<n→p/B<q/B→idx d[p]! < idx d[q]!
theorem Ek.perm{n B f a b:Nat}{d d':Array α}(h:Ek idx n B f d)(hp:PermIn a b d d')(hb:b≤n)(hn:n=d.size)(hfa:f≤a)(hs:∀ p q,a≤p→p<b→a≤q→q<b→p/B=q/B):Ek idx n B f d':=by
 intro p q fp fq hpn hqn hlt;by_cases h1:a≤p∧p<b
 ·by_cases h2:a≤q∧q<b
  ·have:=hs p q h1.1 h1.2 h2.1 h2.2;omega
  rw[hp.2.1 q (by omega)];refine Zhl d d' a b (fun x=>idx x<idx d[q]!) (by omega) hp (fun k k1 k2=>h k q (by omega) fq (by omega) hqn ?_) p h1.1 h1.2;rw[hs k p k1 k2 h1.1 h1.2];exact hlt
 rw[hp.2.1 p (by omega)];by_cases h2:a≤q∧q<b
 ·refine Zhl d d' a b (fun x=>idx d[p]! < idx x) (by omega) hp (fun k k1 k2=>h p k fp (by omega) hpn (by omega) ?_) q h2.1 h2.2;rw[hs k q k1 k2 h2.1 h2.2];exact hlt
 rw[hp.2.1 q (by omega)];exact h p q fp fq hpn hqn hlt
theorem Ek.double{n B f:Nat}{d:Array α}(h:Ek idx n B f d):Ek idx n (2*B) f d:=fun p q h1 h2 h3 h4 h5=>h p q h1 h2 h3 h4 (by
 rw[Zi0,← Nat.div_div_eq_div_mul,← Nat.div_div_eq_div_mul]at h5;omega)
theorem Zwr{n B:Nat}{d:Array α}(h:∀ p q,p<q→q<n→idx d[p]! < idx d[q]!)(f:Nat):Ek idx n B f d:=fun p q _ _ h3 h4 h5=>h p q (by
 rcases Zjz p q with hh|hh
 ·exact hh
 have:=Nat.div_le_div_right (c:=B) hh;omega) h4
theorem K7{B k p:Nat}(h1:k*B≤p)(h2:p<(k+1)*B):p/B=k:=by
 have hB:0<B:=by
  rcases Zkv B with h|h
  ·subst h;simp at h2
  exact h
 rw[Nat.div_eq_iff hB];rw[Zk8,Zjt]at h2;rw[Zi0]at h1 h2;constructor
 ·rw[Zi0]at h1;omega
 rw[Zi0]at h2;omega
structure En(key:α→Int)(idx:α→Nat)(n k:Nat)(d0 d:Array α):Prop where
 perm:PermIn 0 n d0 d
 done:∀ j,j<k→SortedIn (lxK key idx) (j*20) ((j+1)*20) d
 rest:∀ p q,k*20≤p→p<q→q<n→idx d[p]! < idx d[q]!
 rank:Ek idx n 20 0 d
theorem SortedIn.keep{lt:α→α→Bool}{a b:Nat}{d d':Array α}(h:SortedIn lt a b d)(he:∀ p,a≤p→p<b→d'[p]! = d[p]!):SortedIn lt a b d':=fun p q h1 h2 h3=>by
 rw[he p h1 (by omega),he q (by omega) h3];exact h p q h1 h2 h3
theorem En.start{n:Nat}{d:Array α}(h:∀ p q,p<q→q<n→idx d[p]! < idx d[q]!):En key idx n 0 d d :=
 ⟨Zjj _ _ _,fun j hj=>by omega,fun p q _ h2 h3=>h p q h2 h3,Zwr h 0⟩
theorem En.step{n k b:Nat}{d0 d d':Array α}(h:En key idx n k d0 d)(hn:n=d.size)(hb1:k*20≤b)(hb2:b≤k*20+20)(hbn:b≤n)(hd:d'=insertionSort (ltK key) d (k*20) b) :
 PermIn 0 n d0 d'∧Ek idx n 20 0 d'∧SortedIn (lxK key idx) (k*20) b d'∧(∀ p,p<k*20∨b≤p→d'[p]! = d[p]!):=by
 rw[F7 (idx:=idx) (by omega) fun p q h1 h2 h3=>h.rest p q h1 h2 (by omega)]at hd;obtain⟨h1,h2⟩:=insertionSort_holds (lt:=lxK key idx) (Zyu key idx) d (k*20) b hb1 (by omega);rw[← hd]at h1 h2;refine⟨Zk5 _ _ _ _ _ h.perm (Zhy _ _ _ _ _ _ (Zlf _) hbn (by omega) h1),h.rank.perm h1 hbn hn (Zlf _) fun p q p1 p2 q1 q2=>?_,h2,fun p hp=>h1.2.1 p hp⟩;rw[K7 p1 (by omega),K7 q1 (by omega)]
theorem En.next{n k:Nat}{d0 d d':Array α}(h:En key idx n k d0 d)(hn:n=d.size)(hb:k*20+20≤n)(hd:d'=insertionSort (ltK key) d (k*20) (k*20+20)):En key idx n (k+1) d0 d':=by
 obtain⟨h1,h2,h3,h4⟩:=h.step hn (by omega) (Yp _) hb hd;refine⟨h1,fun j hj=>?_,fun p q p1 p2 p3=>?_,h2⟩
 ·by_cases e:j=k
  ·subst e;rw[Zk8,Zjt];exact h3
  exact SortedIn.keep (h.done j (by omega)) fun p p1 p2=>h4 p (.inl (by have:(j+1)*20≤k*20:=Zla _ (by omega);omega))
 rw[h4 p (.inr (by omega)),h4 q (.inr (by omega))];exact h.rest p q (by omega) p2 p3
structure Az(key:α→Int)(idx:α→Nat)(n B:Nat)(d0 d:Array α):Prop where
 perm:PermIn 0 n d0 d
 done:∀ j,SortedIn (lxK key idx) (j*B) (min ((j+1)*B) n) d
 rank:Ek idx n B 0 d
theorem En.last{n k:Nat}{d0 d d':Array α}(h:En key idx n k d0 d)(hn:n=d.size)(hk:k*20≤n)(hb:n<k*20+20)(hd:d'=insertionSort (ltK key) d (k*20) n):Az key idx n 20 d0 d':=by
 obtain⟨h1,h2,h3,h4⟩:=h.step hn hk (by omega) (Yp _) hd;refine⟨h1,fun j=>?_,h2⟩;rcases Zj2 j k with e|e|e
 ·have hm:(j+1)*20≤k*20:=Zla _ (by omega);rw[Zjm (by omega)];exact SortedIn.keep (h.done j e) fun p p1 p2=>h4 p (.inl (by omega))
 ·subst e;rw[Zjg (by omega)];exact h3
 intro p q p1 p2 p3;have:(k+1)*20≤j*20:=Zla _ (by omega);omega
structure K0(key:α→Int)(idx:α→Nat)(n B k:Nat)(d0 d:Array α):Prop where
 perm:PermIn 0 n d0 d
 done:∀ j,j<k→SortedIn (lxK key idx) (j*(2*B)) ((j+1)*(2*B)) d
 rest:∀ j,2*k≤j→SortedIn (lxK key idx) (j*B) (min ((j+1)*B) n) d
 rank:Ek idx n B (k*(2*B)) d
 rank2:Ek idx n (2*B) 0 d
theorem Az.mid{n B:Nat}{d0 d:Array α}(h:Az key idx n B d0 d):K0 key idx n B 0 d0 d :=
 ⟨h.perm,fun j hj=>by omega,fun j _=>h.done j,by simpa using h.rank,h.rank.double⟩
theorem Zpy(k B:Nat):k*(2*B)=2*k*B:=by rw[← Nat.mul_assoc,Zi0 k 2]
theorem K0.mg{n B k b:Nat}{d0 d:Array α}(h:K0 key idx n B k d0 d)(hB:0<B)(hm:k*(2*B)+B≤b)(hb:b≤k*(2*B)+2*B)(hbn:b≤n)(hfull:b=k*(2*B)+2*B∨b=n):Mg key idx (k*(2*B)) (k*(2*B)+B) b d:=by
 have e:=Zpy k B;have e1:(2*k+1)*B=k*(2*B)+B:=by rw[Zk8,Zjt,← e]
 have e2:(2*k+1+1)*B=k*(2*B)+2*B:=by rw[Zk8,Zjt,e1];omega
 refine⟨?_,?_,fun p q h1 h2 h3 h4=>h.rank p q h1 (by omega) (by omega) (by omega) ?_⟩
 ·have:=h.rest (2*k) (Yp _)
  rwa [e1,Zjm (by omega),← e]at this
 ·have:=h.rest (2*k+1) (by omega);rw[e1,e2]at this;rcases hfull with hf|hf
  ·rw[← hf,Zjm hbn]at this;exact this
  rw[Zjg (by omega),← hf]at this;exact this
 have d1:p/B=2*k:=K7 (by omega) (by omega);have d2:2*k+1≤q/B:=by rw[Nat.le_div_iff_mul_le hB];omega
 omega
theorem K0.step{n B k b:Nat}{d0 d d':Array α}(h:K0 key idx n B k d0 d)(hn:n=d.size)(hb:b≤k*(2*B)+2*B)(hbn:b≤n)(hm:Merged key idx (k*(2*B)) b d d') :
 PermIn 0 n d0 d'∧Ek idx n (2*B) 0 d'∧(∀ p,p<k*(2*B)∨b≤p→d'[p]! = d[p]!)∧SortedIn (lxK key idx) (k*(2*B)) b d':=by
 refine⟨Zk5 _ _ _ _ _ h.perm (Zhy _ _ _ _ _ _ (Zlf _) hbn (by omega) hm.1),h.rank2.perm hm.1 hbn hn (Zlf _) fun p q p1 p2 q1 q2=>?_,fun p hp=>hm.1.2.1 p hp,hm.2⟩;have e:(k+1)*(2*B)=k*(2*B)+2*B:=by rw[Zk8,Zjt]
 rw[K7 p1 (by omega),K7 q1 (by omega)]
theorem K0.next{n B k:Nat}{d0 d d':Array α}(h:K0 key idx n B k d0 d)(hn:n=d.size)(hb:k*(2*B)+2*B≤n)(hm:Merged key idx (k*(2*B)) (k*(2*B)+2*B) d d'):K0 key idx n B (k+1) d0 d':=by
 obtain⟨h1,h2,h3,h4⟩:=h.step hn (Yp _) hb hm;have e:(k+1)*(2*B)=k*(2*B)+2*B:=by rw[Zk8,Zjt]
 refine⟨h1,fun j hj=>?_,fun j hj=>?_,?_,h2⟩
 ·by_cases ej:j=k
  ·subst ej;rw[e];exact h4
  exact SortedIn.keep (h.done j (by omega)) fun p p1 p2=>h3 p (.inl (by have:(j+1)*(2*B)≤k*(2*B):=Zla _ (by omega);omega))
 ·refine SortedIn.keep (h.rest j (by omega)) fun p p1 p2=>h3 p (.inr ?_)
  have:=Zla B hj;rw[Nat.mul_add,Zk8,← Zpy]at this;omega
 intro p q p1 q1 p2 q2 hlt;rw[h3 p (.inr (by omega)),h3 q (.inr (by omega))];exact h.rank p q (by omega) (by omega) p2 q2 hlt
theorem K0.fin{n B k:Nat}{d0 d:Array α}(h:K0 key idx n B k d0 d)(hb:n<k*(2*B)+2*B)(hl:SortedIn (lxK key idx) (k*(2*B)) n d):Az key idx n (2*B) d0 d:=by
 refine⟨h.perm,fun j=>?_,h.rank2⟩;have e:(k+1)*(2*B)=k*(2*B)+2*B:=by rw[Zk8,Zjt]
 rcases Zj2 j k with ej|ej|ej
 ·intro p q p1 p2 p3;exact h.done j ej p q p1 p2 (by omega)
 ·subst ej;intro p q p1 p2 p3;exact hl p q p1 p2 (by omega)
 intro p q p1 p2 p3;have:(k+1)*(2*B)≤j*(2*B):=Zla _ (by omega);omega
theorem K0.fin_one{n B k:Nat}{d0 d:Array α}(h:K0 key idx n B k d0 d)(hb:n≤k*(2*B)+B):Az key idx n (2*B) d0 d:=by
 rcases Zkv B with h0|hB
 ·subst h0;exact⟨h.perm,fun j p q p1 p2 p3=>by simp at p3,h.rank2⟩
 refine h.fin (by omega) ?_;have:=h.rest (2*k) (Yp _);rw[← Zpy]at this;intro p q p1 p2 p3;refine this p q p1 p2 ?_;rw[Zk8,Zjt,← Zpy];omega
theorem K0.fin_two{n B k:Nat}{d0 d d':Array α}(h:K0 key idx n B k d0 d)(hn:n=d.size)(hm0:k*(2*B)≤n)(hb:n<k*(2*B)+2*B)(hm:Merged key idx (k*(2*B)) n d d'):Az key idx n (2*B) d0 d':=by
 obtain⟨h1,h2,h3,h4⟩:=h.step hn (by omega) (Yp _) hm;refine⟨h1,fun j=>?_,h2⟩;have e:(k+1)*(2*B)=k*(2*B)+2*B:=by rw[Zk8,Zjt]
 rcases Zj2 j k with ej|ej|ej
 ·have hh:(j+1)*(2*B)≤k*(2*B):=Zla _ (by omega);rw[Zjm (by omega)];exact SortedIn.keep (h.done j ej) fun p p1 p2=>h3 p (.inl (by omega))
 ·subst ej;intro p q p1 p2 p3;exact h4 p q p1 p2 (by omega)
 intro p q p1 p2 p3;have:(k+1)*(2*B)≤j*(2*B):=Zla _ (by omega);omega
theorem Az.whole{n B:Nat}{d0 d:Array α}(h:Az key idx n B d0 d)(hB:n≤B):Merged key idx 0 n d0 d:=by
 refine⟨h.perm,fun p q p1 p2 p3=>?_⟩;have:=h.done 0;rw[Zhs,Zle,Zjt,Zjg hB]at this;exact this p q p1 p2 p3
end
end
section
open Go.Shelf Go.RowKit Go.Lib Go.Sort
variable {α:Type} [Inhabited α]
theorem Zwg(enc:α→Value)(key:α→Int)(idx:α→Nat)(sz blk off cap:Nat)(cb:Array Value)(d0:Array α)(w0:World)(hcmp:CmpLays1 Tryz.prog 67 cb enc (cfK key) blk off sz w0)(R:Row1 enc w0 blk off d0)(hs:d0.size=sz)(hsz:sz≤1000000000000000000)
 (hasc:∀ p q,p<q→q<sz→idx d0[p]! < idx d0[q]!) :
 Calls Tryz.prog 99 #[.slice (some ⟨blk,off,none⟩) sz cap,.int .i64 sz,.func (.func 67) #[] cb] w0 (Ka enc key idx w0 sz blk off 0 sz d0):=by
 have HC:Aside _:=hcmp;have HI:Aside (En key idx sz 0 d0 d0):=En.start hasc;have S0:Aside (SW enc w0 blk off d0 w0):=SW.start R.hH;have h62:sz<4611686018427387904:=by omega
 clear hcmp hasc;go_enter Tryz.func99,Tryz.ntmps99;go_wp2_with fail;go_loopg [7,8] sz (fun g1 va vb wr=>∃ (k:Nat) (d:Array α),va=.int .i64 ((k*20:Nat):Int)∧vb=.int .i64 ((k*20+20:Nat):Int)∧k*20≤sz∧sz-k*20≤g1∧d.size=sz∧Aside (SW enc w0 blk off d wr)∧Aside (En key idx sz k d0 d));case atStart=>exact⟨0,d0,by go_num,by go_num,by omega,by omega,hs,S0,HI⟩
 clear S0 HI;obtain⟨k,d,rfl,rfl,hk,hg,hd,S1,HI⟩:=hrel;obtain⟨a,ha⟩:=gnX (k*20);have HA:=Zkx ha;rw[ha]at hk hg⊢;clear ha;by_cases hlt:a+20≤sz
 ·have hltz:((a+20:Nat):Int)≤(sz:Int):=by omega
  have hltz2:(a:Int)+20≤(sz:Int):=by omega
  go_wp2_with fail;refine(Bh enc key sz blk off cap a (a+20) cb d0 d w0 _ HC.out R hs hd S1.out (by omega) hlt h62).mono ?_;rintro x w2 ⟨rfl,S2⟩;have hd2:(insertionSort (ltK key) d a (a+20)).size=sz:=by
   have:=(HI.out.step (k:=k) (b:=k*20+20) hd.symm (by omega) (by omega) (by rw[HA.out];exact hlt) rfl).1.1;rw[HA.out]at this;omega
  have HI2:Aside (En key idx sz (k+1) d0 (insertionSort (ltK key) d a (a+20))):=HI.out.next hd.symm (by rw[HA.out];exact hlt) (by rw[HA.out]);have S2':Aside _:=S2;obtain⟨d2,hd2e⟩:=gnX (insertionSort (ltK key) d a (a+20));rw[hd2e]at hd2 HI2 S2';have HA2:(k+1)*20=a+20:=by rw[← HA.out,Zk8]
  clear S2 S1 HI hd2e;go_wp2_with fail;go_roundg (sz-(a+20));case measure=>omega
  case rel=>exact⟨k+1,d2,by rw[HA2];simp,by rw[HA2];go_num,by omega,by omega,hd2,S2',HI2⟩
 have hltz:¬ ((a+20:Nat):Int)≤(sz:Int):=by omega
 have hltz2:¬ (a:Int)+20≤(sz:Int):=by omega
 go_wp2_with fail;refine(Bh enc key sz blk off cap a sz cb d0 d w0 _ HC.out R hs hd S1.out hk (Yp _) h62).mono ?_;rintro x w2 ⟨rfl,S2⟩;have HM:Aside (Az key idx sz 20 d0 (insertionSort (ltK key) d a sz)):=HI.out.last hd.symm (by rw[HA.out];exact hk) (by rw[HA.out];omega) (by rw[HA.out]);have S2':Aside _:=S2;obtain⟨d2,hd2e⟩:=gnX (insertionSort (ltK key) d a sz);rw[hd2e]at HM S2';have hd2:d2.size=sz:=by have:=HM.out.perm.1;omega
 clear S2 S1 HI hd2e HA hd hk hlt hltz hltz2 hg;go_wp2_with fail;go_loopg [6,7,8,9] sz (fun g1 vB va vb vm wr=>∃ (B:Nat) (d:Array α),vB=.int .i64 (B:Int)∧0<B∧B≤2000000000000000000∧sz-B≤g1∧d.size=sz∧Aside (SW enc w0 blk off d wr)∧Aside (Az key idx sz B d0 d));case atStart=>exact⟨20,d2,by go_num,by omega,by omega,by omega,hd2,S2',HM⟩
 clear S2' HM hd2;obtain⟨B,d,rfl,hB0,hB1,hg,hd,S1,HM⟩:=hrel;by_cases hlt:B<sz
 ·have hltz:(B:Int)<(sz:Int):=by omega
  obtain⟨C,hC1,hC2⟩:∃ C,C≤2*B∧2*B≤C:=⟨2*B,Yp _,Yp _⟩;have rC:2*(B:Int)=(C:Int):=by omega
  have rC2:(B:Int)*2=(C:Int):=by omega
  have HN:Aside (K0 key idx sz B 0 d0 d):=HM.out.mid;clear HM;go_wp2_with fail;go_loopg [7,8] sz (fun g2 va vb wr2=>∃ (k a:Nat) (d:Array α),va=.int .i64 (a:Int)∧vb=.int .i64 ((a+C:Nat):Int)∧Aside (k*(2*B)=a)∧a≤sz∧sz-a≤g2∧d.size=sz∧Aside (SW enc w0 blk off d wr2)∧Aside (K0 key idx sz B k d0 d));case atStart=>exact⟨0,0,d,by go_num,by simp,(show 0*(2*B)=0 from Zhs _),by omega,by omega,hd,S1,HN⟩
  clear S1 HN hd;obtain⟨k,a,d,rfl,rfl,HA,hk,hg2,hd,S1,HN⟩:=hrel;have hCB:C=2*B:=by omega
  have HCB:Aside _:=hCB;clear hCB;by_cases hlt2:a+C≤sz
  ·have hz1:(a:Int)+(C:Int)≤(sz:Int):=by omega
   have hz2:((a+C:Nat):Int)≤(sz:Int):=by omega
   obtain⟨m,hm1,hm2⟩:∃ m,m≤a+B∧a+B≤m:=⟨a+B,Yp _,Yp _⟩;have rm:(a:Int)+(B:Int)=(m:Int):=by omega
   have HM2:Aside (Mg key idx a m (a+C) d):=by
    have:=HN.out.mg hB0 (b:=a+C) (by rw[HA.out];omega) (by rw[HA.out];omega) hlt2 (.inl (by rw[HA.out];omega));rw[HA.out]at this;rw[show m=a+B by omega];exact this
   go_wp2_with fail;refine(merge_any enc key idx sz blk off cap cb d0 w0 HC.out R hs h62 (a+C) a m (a+C) d _ (by omega) (by omega) (by omega) hlt2 hd S1.out HM2.out).mono ?_;rintro x w3 ⟨rfl,d3,S3,hs3,hM3⟩;have HN3:Aside (K0 key idx sz B (k+1) d0 d3):=HN.out.next hd.symm (by rw[HA.out];have:=HCB.out;omega) (by rw[HA.out,← HCB.out];exact hM3);have S3':Aside _:=S3;have HA3:Aside ((k+1)*(2*B)=a+C):=by show _=_;rw[Zk8,Zjt,HA.out,HCB.out]
   clear S3 hM3 HN S1 HM2 rm;go_wp2_with fail;go_roundg (sz-(a+C));case measure=>omega
   case rel=>exact⟨k+1,a+C,d3,rfl,by go_num,HA3,hlt2,Yp _,hs3,S3',HN3⟩
  have hz1:¬ (a:Int)+(C:Int)≤(sz:Int):=by omega
  have hz2:¬ ((a+C:Nat):Int)≤(sz:Int):=by omega
  obtain⟨m,hm1,hm2⟩:∃ m,m≤a+B∧a+B≤m:=⟨a+B,Yp _,Yp _⟩;have rm:(a:Int)+(B:Int)=(m:Int):=by omega
  by_cases hms:m<sz
  ·have hz3:(m:Int)<(sz:Int):=by omega
   have HM2:Aside (Mg key idx a m sz d):=by
    have:=HN.out.mg hB0 (b:=sz) (by rw[HA.out];omega) (by rw[HA.out];omega) (Yp _) (.inr rfl);rw[HA.out]at this;rw[show m=a+B by omega];exact this
   go_wp2_with fail;refine(merge_any enc key idx sz blk off cap cb d0 w0 HC.out R hs h62 sz a m sz d _ (by omega) (by omega) (by omega) (Yp _) hd S1.out HM2.out).mono ?_;rintro x w3 ⟨rfl,d3,S3,hs3,hM3⟩;have HF:Aside (Az key idx sz C d0 d3):=by
    have:=HN.out.fin_two hd.symm (by rw[HA.out];exact hk) (by rw[HA.out,← HCB.out];omega) (by rw[HA.out];exact hM3);rw[HCB.out];exact this
   have S3':Aside _:=S3;clear S3 hM3 HN S1 HM2 rm;go_wp2_with fail;go_roundg (sz-C);case measure=>omega
   case rel=>exact⟨C,d3,by go_num,by omega,by omega,Yp _,hs3,S3',HF⟩
  have hz3:¬ (m:Int)<(sz:Int):=by omega
  have HF:Aside (Az key idx sz C d0 d):=by
   have:=HN.out.fin_one (by rw[HA.out];omega);rw[HCB.out];exact this
  clear HN;go_wp2_with fail;go_roundg (sz-C);case measure=>omega
  case rel=>exact⟨C,d,by go_num,by omega,by omega,Yp _,hd,S1,HF⟩
 have hltz:¬ (B:Int)<(sz:Int):=by omega
 go_wp2_with fail;go_end0;exact⟨rfl,d,S1.out,hd,HM.out.whole (by omega)⟩
theorem My(enc:α→Value)(key:α→Int)(idx:α→Nat)(sz blk off cap:Nat)(cb:Array Value)(d0:Array α)(w0:World)(hcmp:CmpLays1 Tryz.prog 67 cb enc (cfK key) blk off sz w0)(R:Row1 enc w0 blk off d0)(hs:d0.size=sz)(hsz:sz≤1000000000000000000)
 (hasc:∀ p q,p<q→q<sz→idx d0[p]! < idx d0[q]!) :
 Calls Tryz.prog 66 #[.slice (some ⟨blk,off,none⟩) sz cap,.func (.func 67) #[] cb] w0 (Ka enc key idx w0 sz blk off 0 sz d0):=by
 have HS:Aside _:=Zwg enc key idx sz blk off cap cb d0 w0 hcmp R hs hsz hasc;clear hcmp hasc R;go_enter Tryz.func66,Tryz.ntmps66;go_wp2_with fail;refine Zk6 HS.out ?_;rintro x w2 ⟨rfl,d,S,h1,h2⟩;have S':Aside _:=S;have H2:Aside _:=h2;clear S h2;go_wp2_with fail;go_end0;exact⟨rfl,d,S'.out,h1,H2.out⟩
end
open Go.RowKit Go.Sort Go.Shelf
def cfI(x y:Int):Int:=if x<y then -1 else if y<x then 1 else 0
theorem F8(x:Int)(w:World):Calls Tryz.prog 100 #[.int .i64 x] w fun e w'=>e=.returned (.bool false)∧w=w':=by
 go_enter Tryz.func100,Tryz.ntmps100;go_wp2;go_ret;simp
theorem Ic(x y:Int)(w:World):Calls Tryz.prog 68 #[.int .i64 x,.int .i64 y] w fun e w'=>e=.returned (.int .i64 (cfI x y))∧w=w':=by
 by_cases h1:x<y
 ·have H:=Ya (show cfI x y = -1 by simp[cfI,h1]);go_enter Tryz.func68,Tryz.ntmps68;go_wp2_with (go_at_call 100;refine(F8 _ _).mono ?_;rintro e w' ⟨rfl,rfl⟩);go_ret;exact⟨by rw[H.o];rfl,rfl⟩
 by_cases h2:y<x
 ·have H:=Ya (show cfI x y=1 by simp[cfI,h1,h2]);go_enter Tryz.func68,Tryz.ntmps68;go_wp2_with (go_at_call 100;refine(F8 _ _).mono ?_;rintro e w' ⟨rfl,rfl⟩);go_ret;exact⟨by rw[H.o];rfl,rfl⟩
 have H:=Ya (show cfI x y=0 by simp[cfI,h1,h2]);go_enter Tryz.func68,Tryz.ntmps68;go_wp2_with (go_at_call 100;refine(F8 _ _).mono ?_;rintro e w' ⟨rfl,rfl⟩);go_ret;exact⟨by rw[H.o];rfl,rfl⟩
theorem Zwm{P:Program}{f:FuncId}{args:Array Value}{w:World}{v:Value}(h:Calls P f args w fun e w'=>e=.returned v∧w=w'):Calls P f args w fun e w'=>e=.returned v∧∃ q os',w'=grow (w.drewN q) os' :=
 h.mono fun _ _ ⟨he,hw⟩=>⟨he,0,#[],by rw[grow_empty,← hw];rfl⟩
theorem Ig{S:Nat→Prop}(B i j:Nat)(A:Option Addr)(C:Nat)(os:List Opn)(a b:Opn)(W:World)(hB:W.cell? ⟨B,0,none⟩=some (.slice A os.length C))(ho:Vy W S (.slice A os.length C) os)(ha:os[i]?=some a)(hb:os[j]?=some b) :
 Calls Tryz.prog 67 #[.int .i64 i,.int .i64 j,.pointer (some ⟨B,0,none⟩)] W fun e w'=>e=.returned (.int .i64 (cfI a.dec b.dec))∧∃ q os',w'=grow (W.drewN q) os':=by
 have mixed:=Gw;obtain⟨g,p,c,hv,h1,h2,_,hA,_⟩:=ho.get ha;obtain⟨g',p',c',hv',_,_,_,hA',_⟩:=ho.get hb;simp only[Yg,Zlc]at hv hv';obtain⟨rfl,rfl⟩:=hv;simp only[Yf,Zlh,Zky]at hv';obtain⟨⟨rfl,rfl⟩,rfl⟩:=hv';have hi:=(Zr.1 ha).1;have hj:=(Zr.1 hb).1;have hBl:=lt_of_cell hB;have kB:=fun n os=>cell_grown (w:=W) hBl hB n os
 have ka:=fun n os=>cell_grown (w:=W) (a:=⟨g,p+i*23+13,none⟩) hA.1 hA.dec n os
 have kb:=fun n os=>cell_grown (w:=W) (a:=⟨g,p+j*23+13,none⟩) hA'.1 hA'.dec n os
 have hc:=fun n os=>Zwm (Ic a.dec b.dec (grow (W.drewN n) os))
 have q1:(0:Int)≤(i:Int):=by omega
 have q2:(i:Int)<(os.length:Int):=by omega
 have q3:(0:Int)≤(j:Int):=by omega
 have q4:(j:Int)<(os.length:Int):=by omega
 obtain⟨n,hn⟩:=gnX (os.length);rw[hn]at q2 q4 kB;clear hn ha hb hA hA' ho hB h1 hi hj;go_enter Tryz.func67,Tryz.ntmps67;go_wp2_with fail;go_quiet_grown (first|(go_at_call 68;refine Calls.grown_of (hc _ _)));go_wp2_with fail;go_ret;exact⟨rfl,_,_,rfl⟩
def Fj(os:List Opn)(i:Nat):Int:=match os[i]? with|some o=>o.dec|none=>-1
def Zv2(os:List Opn)(i:Nat):Bool:=Fj os i != -1
theorem Ai{os:List Opn}{i:Nat}{o:Opn}(h:os[i]?=some o):Fj os i=o.dec:=by simp[Fj,h]
theorem Pz{os:List Opn}{i:Nat}(h:Zv2 os i=true):i<os.length:=by
 unfold Zv2 Fj at h;cases e:os[i]? with
 | none=>rw[e]at h;simp at h
 | some o=>exact(Zr.1 e).1
def lxO(os:List Opn)(i j:Nat):Bool:=decide (Fj os i<Fj os j∨Fj os i=Fj os j∧i<j)
structure Zy6(os:List Opn)(l:List Nat):Prop where
 asc:l.Pairwise (fun i j=>lxO os i j=true)
 mem:∀ i,i∈l↔Zv2 os i=true
theorem Ul{α:Type}{R:α→α→Prop}(irr:∀ x,¬ R x x)(asy:∀ x y,R x y→¬ R y x):∀ {a b:List α},a.Pairwise R→b.Pairwise R→(∀ x,x∈a↔x∈b)→a=b
 | [],[],_,_,_=>rfl
 | [],y::b,_,_,h=>by have:=(h y).2 (Zje ..);simp at this
 | x::a,[],_,_,h=>by have:=(h x).1 (Zje ..);simp at this
 | x::a,y::b,ha,hb,h=>by
  rw[Zke]at ha hb;have e:x=y:=by
   have h1:=(h x).1 (Zje ..);have h2:=(h y).2 (Zje ..);rcases Zg.1 h1 with e|h1
   ·exact e
   rcases Zg.1 h2 with e|h2
   ·exact e.symm
   exact absurd (ha.1 y h2) (asy _ _ (hb.1 x h1))
  subst e;congr 1;refine Ul irr asy ha.2 hb.2 fun z=>?_
  constructor
  ·intro hz;rcases Zg.1 ((h z).1 (Zj4 _ hz))with e|h1
   ·subst e;exact absurd (ha.1 z hz) (irr z)
   exact h1
  intro hz;rcases Zg.1 ((h z).2 (Zj4 _ hz))with e|h1
  ·subst e;exact absurd (hb.1 z hz) (irr z)
  exact h1
theorem Zy6.unique{os:List Opn}{a b:List Nat}(ha:Zy6 os a)(hb:Zy6 os b):a=b :=
 Ul (fun x=>by simp[lxO]) (fun x y=>by simp only[lxO,Zl5];omega) ha.asc hb.asc fun x=>by rw[ha.mem,hb.mem]
def Dp(os:List Opn)(i:Nat):List Nat:=(List.range i).filter (Zv2 os)
theorem Re(os:List Opn)(i:Nat):Dp os (i+1)=if Zv2 os i then Dp os i++[i]else Dp os i:=by
 unfold Dp;rw[Ziy,Zjd];by_cases h:Zv2 os i=true<;>simp[h]
theorem Px(os:List Opn)(i:Nat):(Dp os i).length≤i:=by
 have:=List.length_filter_le (Zv2 os) (List.range i);simpa[Dp]using this
theorem Af{os:List Opn}{i j:Nat}:j∈Dp os i↔j<i∧Zv2 os j=true:=by simp[Dp]
theorem Py(os:List Opn)(i:Nat):(Dp os i).Pairwise (· < ·):=List.Pairwise.filter _ List.pairwise_lt_range
def Cf(os:List Opn):List Nat:=(Dp os os.length).mergeSort (fun i j=>!lxO os j i)
theorem Pj(os:List Opn):Zy6 os (Cf os):=by
 have hs:(Cf os).Pairwise (fun i j=>(!lxO os j i)=true):=List.pairwise_mergeSort
  (fun a b c h1 h2=>by simp only[Zkm,lxO,Zl1]at h1 h2⊢;omega)
  (fun a b=>by simp only[Zjo,Zkm,lxO,Zl1];omega) _
 have hp:=List.mergeSort_perm (Dp os os.length) (fun i j=>!lxO os j i);have hn:(Cf os).Nodup:=hp.nodup_iff.2 ((Py os os.length).imp fun h=>Ziq h);refine⟨?_,fun i=>?_⟩
 ·refine(hs.and hn).imp fun {a b} ⟨h1,h2⟩=>?_
  simp only[Zkm,lxO,Zl1,Zl5]at h1⊢;omega
 rw[Cf,hp.mem_iff,Af];exact⟨fun h=>h.2,fun h=>⟨Pz h,h⟩⟩
theorem Zqj(os:List Opn):(Cf os).length≤os.length:=by
 rw[Cf,List.length_mergeSort];exact Px _ _
theorem Zqi{os:List Opn}{i:Nat}(h:i∈Cf os):∃ o,os[i]?=some o:=by
 have:=Pz (((Pj os).mem i).1 h);exact⟨os[i],Zz this⟩
def lastOf(os:List Opn):Nat→Int→Option Opn
 | 0,_=>none
 | i+1,c=>match os[i]? with|some o=>if o.cl=c then some o else lastOf os i c|none=>lastOf os i c
def Jh(os:List Opn)(i:Nat)(c:Int):Option Int:=(lastOf os i c).map Opn.ans
def seenD(os:List Opn)(i:Nat)(d:Int):Bool:=(os.take i).any fun o=>o.dec==d
def Il(os:List Opn)(i:Nat)(o:Opn):Bool:=match os[i-1]? with|some p=>decide (0<i)&&decide (o.begun≤p.begun)|none=>false
def Gp(os:List Opn)(i:Nat)(o:Opn):Bool:=match Jh os i o.cl with|some a=>a == -1||decide (o.begun≤a)|none=>false
def Di(cl:Int)(os:List Opn)(i:Nat):Bool:=match os[i]? with|some o=>Vq cl o&&!Il os i o&&!(o.dec != -1&&seenD os i o.dec)&&!Gp os i o|none=>true
def Vl(cl cp:Int)(os:List Opn):Int×Int :=
 if Vc cl cp≠0 then(0,Vc cl cp)else if 4096<os.length then(0,7)else match(List.range os.length).find? (fun i=>!Di cl os i)with|some i=>((i:Int),4)|none=>(0,0)
theorem Fg{p:Nat→Bool}{n i:Nat}(hi:i<n)(hp:p i=true)(hb:∀ j,j<i→p j=false):(List.range n).find? p=some i:=by
 have e:List.range n=List.range i++(i::(List.range' (i+1) (n-i-1))):=by
  rw[List.range_eq_range',List.range_eq_range',← List.range'_succ,show n=i+(n-i) by omega];rw[← List.range'_append_1];simp only[Zle,Zhz];congr 2;omega
 rw[e,List.find?_append];have h1:(List.range i).find? p=none:=by
  rw[List.find?_eq_none];intro x hx;rw[hb x (Zkf.1 hx)];simp
 rw[h1];simp[hp]
theorem Nq{cl cp:Int}{os:List Opn}(hc:Vc cl cp=0)(hl:¬ 4096<os.length){i:Nat}(hi:i<os.length)(hb:Di cl os i=false)(ho:∀ j,j<i→Di cl os j=true):Vl cl cp os=((i:Int),4):=by
 unfold Vl;rw[Zlq (by omega),Zlq hl,Fg hi (by rw[hb];rfl) (fun j hj=>by rw[ho j hj];rfl)]
theorem Fq{cl cp:Int}{os:List Opn}(hc:Vc cl cp=0)(hl:¬ 4096<os.length)(ho:∀ j,j<os.length→Di cl os j=true):Vl cl cp os=(0,0):=by
 unfold Vl;rw[Zlq (by omega),Zlq hl];have:(List.range os.length).find? (fun i=>!Di cl os i)=none:=by
  rw[List.find?_eq_none];intro x hx;rw[ho x (Zkf.1 hx)];simp
 rw[this]
theorem Ou(os:List Opn){i:Nat}{o:Opn}(h:os[i]?=some o)(d:Int):seenD os (i+1) d=true↔d=o.dec∨seenD os i d=true:=by
 unfold seenD;rw[Za,h,Zhr];simp only[Zix,List.any_cons,List.any_nil,Bool.or_false,Zjo,Zhm];constructor
 ·rintro(h|h)
  ·exact .inr h
  exact .inl h.symm
 rintro(h|h)
 ·exact .inr h.symm
 exact .inl h
theorem Dm(os:List Opn){i:Nat}{o:Opn}(h:os[i]?=some o)(c:Int):Jh os (i+1) c=if o.cl=c then some o.ans else Jh os i c:=by
 have e:lastOf os (i+1) c=if o.cl=c then some o else lastOf os i c:=by
  show(match os[i]? with|some o=>if o.cl=c then some o else lastOf os i c|none=>lastOf os i c)=_;rw[h]
 unfold Jh;rw[e];by_cases hc:o.cl=c
 ·rw[Zlm hc,Zlm hc];rfl
 rw[Zlq hc,Zlq hc]
end Go.Proofs.YtnbclgbicnpmnaaGreat
