/- Lemmas of this claim: Ops, StabP, StabE, OrdA, OrdP, RawOps. Conditions: as named. -/
import Derived.Deep.Slices
import Derived.Deep.Strs
import Derived.Lib.SmallJoins
import Derived.OpenShut
import Derived.ProofKit
import Derived.SizedLaws
import Derived.WalkKit
import Derived.Test.YtnbclgbicnpmnaaGreatRows
import Derived.Test.YtnbclgbicnpmnaaGreatA04
import Derived.Test.YtnbclgbicnpmnaaGreatA09
import Derived.Test.YtnbclgbicnpmnaaGreatA10
namespace Go.Proofs.YtnbclgbicnpmnaaGreat
open Go.RowKit Go.Sort
open List renaming getElem?_eq_getElem → Zz, mem_of_getElem? → Zy, length_append → Zs, getElem?_eq_some_iff → Zr, length_map → Zq, getElem?_map → Zn, length_cons → Zl, mem_append → Zj, mem_cons → Zg, getElem?_append_left → Ze, getElem?_append_right → Zd
open Lib renaming hid → Yw
open Nat renaming le_refl → Yo
set_option maxHeartbeats 40000000
set_option maxRecDepth 100000
set_option linter.all false
structure Opn where
 cl:Int
 op:Int
 ttl:Int
 nv:Value
 ns:List Nm
 bad:Zy1
 begun:Int
 dec:Int
 ans:Int
 res:Zy1
def opC (o:Opn):List Value:=[.int .i64 o.cl,.int .i64 o.op,.int .i64 o.ttl,o.nv,.int .i64 o.bad.e,.int .i64 o.bad.at_,.string o.bad.nm,.int .i64 o.bad.rc.st,.int .i64 o.bad.rc.ow,.string o.bad.rc.nm,.int .i64 o.bad.rc.dl,.int .i64 o.bad.tick,.int .i64 o.begun,.int .i64 o.dec,.int .i64 o.ans,.int .i64 o.res.e,.int .i64 o.res.at_,.string o.res.nm,.int .i64 o.res.rc.st,.int .i64 o.res.rc.ow,.string o.res.rc.nm,.int .i64 o.res.rc.dl,.int .i64 o.res.tick]
def opV (o:Opn):Value:=.agg #[.int .i64 o.cl,.int .i64 o.op,.int .i64 o.ttl,o.nv,.int .i64 o.bad.e,.int .i64 o.bad.at_,.string o.bad.nm,.int .i64 o.bad.rc.st,.int .i64 o.bad.rc.ow,.string o.bad.rc.nm,.int .i64 o.bad.rc.dl,.int .i64 o.bad.tick,.int .i64 o.begun,.int .i64 o.dec,.int .i64 o.ans,.int .i64 o.res.e,.int .i64 o.res.at_,.string o.res.nm,.int .i64 o.res.rc.st,.int .i64 o.res.rc.ow,.string o.res.rc.nm,.int .i64 o.res.rc.dl,.int .i64 o.res.tick]
def Gh:List Opn→List Value
 | []=>[]
 | o::l=>opC o++Gh l
theorem Qh (o:Opn):(opC o).length=23:=rfl
theorem Bt:∀ l:List Opn,(Gh l).length=l.length * 23
 | []=>rfl
 | o::l=>by rw [Gh,Zs,Bt l,Qh,Zl];omega
theorem Rg:∀ {l:List Opn} {j:Nat} {o:Opn},l[j]?=some o→∀ k,k < 23→(Gh l)[j * 23+k]?=(opC o)[k]?
 | [],j,o,h,_,_=>by simp at h
 | q::r,0,o,h,k,hk=>by
  have e:q=o:=by simpa using h
  rw [Gh,Ze (by rw [Qh];omega),show 0 * 23+k=k by omega,e]
 | q::r,j+1,o,h,k,hk=>by
  have:=Rg (l:=r) (j:=j) (o:=o) (by simpa using h) k hk
  rw [Gh,Zd (by rw [Qh];omega),Qh,← this,show (j+1) * 23+k - 23=j * 23+k by omega]
def OpsAt (w:World) (S:Nat→Prop) (v:Value) (l:List Opn):Prop:=Rd w S 23 v l.length (Gh l)∧∀ o∈l,Wq w S o.nv o.ns
theorem OpsAt.ext {w w':World} {S:Nat→Prop} {v:Value} {l:List Opn} (h:OpsAt w S v l) (x:Ext w w'):OpsAt w' S v l:=⟨Rd.ext h.1 x,fun p hp=>(h.2 p hp).ext x⟩
theorem OpsAt.chg {S T:Nat→Prop} {w w':World} {v:Value} {l:List Opn} (h:OpsAt w S v l) (c:Chg T w w') (hd:∀ k,S k→¬ T k):OpsAt w' S v l:=⟨Rd.chg h.1 c hd,fun p hp=>Rd.chg (h.2 p hp) c hd⟩
theorem OpsAt.shape {w:World} {S:Nat→Prop} {v:Value} {l:List Opn} (h:OpsAt w S v l):∃ A c,v=.slice A l.length c:=by
 obtain ⟨_,A,c,hv,_⟩:=h.1
 exact ⟨A,c,hv⟩
def Si (w:World) (b p:Nat) (o:Opn):Prop:=b < w.heap.size∧∀ k,k < 23→w.cell? ⟨b,p+k,none⟩=(opC o)[k]?
theorem Si.chg {S:Nat→Prop} {w w':World} {b p:Nat} {o:Opn} (h:Si w b p o) (c:Chg S w w') (hb:¬ S b):Si w' b p o :=
 ⟨Nat.lt_of_lt_of_le h.1 c.size,fun k hk=>(c.cell (p:=⟨b,p+k,none⟩) h.1 hb).trans (h.2 k hk)⟩
theorem Si.ext {w w':World} {b p:Nat} {o:Opn} (h:Si w b p o) (x:Ext w w'):Si w' b p o:=h.chg (x.chg fun _=>False) (fun h=>h)
theorem Si.dec {w:World} {b p:Nat} {o:Opn} (h:Si w b p o):w.cell? ⟨b,p+13,none⟩=some (.int .i64 o.dec):=h.2 13 (by omega)
theorem OpsAt.get {w:World} {S:Nat→Prop} {v:Value} {l:List Opn} (h:OpsAt w S v l) {j:Nat} {o:Opn} (hj:l[j]?=some o) :
 ∃ g p c,v=.slice (some ⟨g,p,none⟩) l.length c∧l.length≤c∧c≤maxLen∧S g∧Si w g (p+j * 23) o∧Wq w S o.nv o.ns:=by
 obtain ⟨g,p,c,hv,h1,h2,h3,h4,hc⟩:=h.1.at_ (Zr.1 hj).1
 refine ⟨g,p,c,hv,h1,h2,h3,⟨h4,fun k hk=>?_⟩,h.2 o (Zy hj)⟩
 have q:=Rg hj k hk
 have hk':k < (opC o).length:=by rw [Qh];exact hk
 rw [Nat.add_assoc,hc (j * 23+k) (opC o)[k] (by rw [q];exact Zz hk')]
 exact (Zz hk').symm
section
open Go.Sort
section
variable {α:Type} [Inhabited α] {key:α→Int} {idx:α→Nat}
def Bb (idx:α→Nat) (n B f:Nat) (d:Array α):Prop:=∀ p q,f≤p→f≤q→p < n→q < n→p / B < q / B→idx d[p]! < idx d[q]!
theorem Bb.perm {n B f a b:Nat} {d d':Array α} (h:Bb idx n B f d) (hp:PermIn a b d d') (hb:b≤n) (hn:n=d.size) (hfa:f≤a) (hs:∀ p q,a≤p→p < b→a≤q→q < b→p / B=q / B):Bb idx n B f d':=by
 intro p q fp fq hpn hqn hlt
 by_cases h1:a≤p∧p < b
 ·by_cases h2:a≤q∧q < b
  ·have:=hs p q h1.1 h1.2 h2.1 h2.2;omega
  rw [hp.2.1 q (by omega)]
  refine permIn_all d d' a b (fun x=>idx x < idx d[q]!) (by omega) hp (fun k k1 k2=>h k q (by omega) fq (by omega) hqn ?_) p h1.1 h1.2
  rw [hs k p k1 k2 h1.1 h1.2];exact hlt
 rw [hp.2.1 p (by omega)]
 by_cases h2:a≤q∧q < b
 ·refine permIn_all d d' a b (fun x=>idx d[p]! < idx x) (by omega) hp (fun k k1 k2=>h p k fp (by omega) hpn (by omega) ?_) q h2.1 h2.2
  rw [hs k q k1 k2 h2.1 h2.2];exact hlt
 rw [hp.2.1 q (by omega)]
 exact h p q fp fq hpn hqn hlt
theorem Bb.double {n B f:Nat} {d:Array α} (h:Bb idx n B f d):Bb idx n (2 * B) f d:=fun p q h1 h2 h3 h4 h5=>h p q h1 h2 h3 h4 (by
 rw [Nat.mul_comm,← Nat.div_div_eq_div_mul,← Nat.div_div_eq_div_mul] at h5
 omega)
theorem Zyf {n B:Nat} {d:Array α} (h:∀ p q,p < q→q < n→idx d[p]! < idx d[q]!) (f:Nat):Bb idx n B f d:=fun p q _ _ h3 h4 h5=>h p q (by
 rcases Nat.lt_or_ge p q with hh|hh
 ·exact hh
 have:=Nat.div_le_div_right (c:=B) hh;omega) h4
theorem Kb {B k p:Nat} (h1:k * B≤p) (h2:p < (k+1) * B):p / B=k:=by
 have hB:0 < B:=by
  rcases Nat.eq_zero_or_pos B with h|h
  ·subst h;simp at h2
  exact h
 rw [Nat.div_eq_iff hB]
 rw [Nat.add_mul,Nat.one_mul] at h2
 rw [Nat.mul_comm] at h1 h2
 constructor
 ·rw [Nat.mul_comm] at h1;omega
 rw [Nat.mul_comm] at h2;omega
structure Bi (key:α→Int) (idx:α→Nat) (n k:Nat) (d0 d:Array α):Prop where
 perm:PermIn 0 n d0 d
 done:∀ j,j < k→SortedIn (lxK key idx) (j * 20) ((j+1) * 20) d
 rest:∀ p q,k * 20≤p→p < q→q < n→idx d[p]! < idx d[q]!
 rank:Bb idx n 20 0 d
theorem SortedIn.keep {lt:α→α→Bool} {a b:Nat} {d d':Array α} (h:SortedIn lt a b d) (he:∀ p,a≤p→p < b→d'[p]! = d[p]!):SortedIn lt a b d':=fun p q h1 h2 h3=>by
 rw [he p h1 (by omega),he q (by omega) h3];exact h p q h1 h2 h3
theorem Bi.start {n:Nat} {d:Array α} (h:∀ p q,p < q→q < n→idx d[p]! < idx d[q]!):Bi key idx n 0 d d :=
 ⟨permIn_refl _ _ _,fun j hj=>by omega,fun p q _ h2 h3=>h p q h2 h3,Zyf h 0⟩
theorem Bi.step {n k b:Nat} {d0 d d':Array α} (h:Bi key idx n k d0 d) (hn:n=d.size) (hb1:k * 20≤b) (hb2:b≤k * 20+20) (hbn:b≤n) (hd:d'=insertionSort (ltK key) d (k * 20) b) :
 PermIn 0 n d0 d'∧Bb idx n 20 0 d'∧SortedIn (lxK key idx) (k * 20) b d'∧(∀ p,p < k * 20∨b≤p→d'[p]! = d[p]!):=by
 rw [Ft (idx:=idx) (by omega) fun p q h1 h2 h3=>h.rest p q h1 h2 (by omega)] at hd
 obtain ⟨h1,h2⟩:=insertionSort_holds (lt:=lxK key idx) (I4 key idx) d (k * 20) b hb1 (by omega)
 rw [← hd] at h1 h2
 refine ⟨permIn_trans _ _ _ _ _ h.perm (permIn_mono _ _ _ _ _ _ (Nat.zero_le _) hbn (by omega) h1),h.rank.perm h1 hbn hn (Nat.zero_le _) fun p q p1 p2 q1 q2=>?_,h2,fun p hp=>h1.2.1 p hp⟩
 rw [Kb p1 (by omega),Kb q1 (by omega)]
theorem Bi.next {n k:Nat} {d0 d d':Array α} (h:Bi key idx n k d0 d) (hn:n=d.size) (hb:k * 20+20≤n) (hd:d'=insertionSort (ltK key) d (k * 20) (k * 20+20)):Bi key idx n (k+1) d0 d':=by
 obtain ⟨h1,h2,h3,h4⟩:=h.step hn (by omega) (Yo _) hb hd
 refine ⟨h1,fun j hj=>?_,fun p q p1 p2 p3=>?_,h2⟩
 ·by_cases e:j=k
  ·subst e;rw [Nat.add_mul,Nat.one_mul];exact h3
  exact SortedIn.keep (h.done j (by omega)) fun p p1 p2=>h4 p (.inl (by have:(j+1) * 20≤k * 20:=Nat.mul_le_mul_right _ (by omega);omega))
 rw [h4 p (.inr (by omega)),h4 q (.inr (by omega))]
 exact h.rest p q (by omega) p2 p3
structure Eg (key:α→Int) (idx:α→Nat) (n B:Nat) (d0 d:Array α):Prop where
 perm:PermIn 0 n d0 d
 done:∀ j,SortedIn (lxK key idx) (j * B) (min ((j+1) * B) n) d
 rank:Bb idx n B 0 d
theorem Bi.last {n k:Nat} {d0 d d':Array α} (h:Bi key idx n k d0 d) (hn:n=d.size) (hk:k * 20≤n) (hb:n < k * 20+20) (hd:d'=insertionSort (ltK key) d (k * 20) n):Eg key idx n 20 d0 d':=by
 obtain ⟨h1,h2,h3,h4⟩:=h.step hn hk (by omega) (Yo _) hd
 refine ⟨h1,fun j=>?_,h2⟩
 rcases Nat.lt_trichotomy j k with e|e|e
 ·have hm:(j+1) * 20≤k * 20:=Nat.mul_le_mul_right _ (by omega)
  rw [Nat.min_eq_left (by omega)]
  exact SortedIn.keep (h.done j e) fun p p1 p2=>h4 p (.inl (by omega))
 ·subst e
  rw [Nat.min_eq_right (by omega)]
  exact h3
 intro p q p1 p2 p3
 have:(k+1) * 20≤j * 20:=Nat.mul_le_mul_right _ (by omega)
 omega
structure Kh (key:α→Int) (idx:α→Nat) (n B k:Nat) (d0 d:Array α):Prop where
 perm:PermIn 0 n d0 d
 done:∀ j,j < k→SortedIn (lxK key idx) (j * (2 * B)) ((j+1) * (2 * B)) d
 rest:∀ j,2 * k≤j→SortedIn (lxK key idx) (j * B) (min ((j+1) * B) n) d
 rank:Bb idx n B (k * (2 * B)) d
 rank2:Bb idx n (2 * B) 0 d
theorem Eg.mid {n B:Nat} {d0 d:Array α} (h:Eg key idx n B d0 d):Kh key idx n B 0 d0 d :=
 ⟨h.perm,fun j hj=>by omega,fun j _=>h.done j,by simpa using h.rank,h.rank.double⟩
theorem Zsp (k B:Nat):k * (2 * B)=2 * k * B:=by rw [← Nat.mul_assoc,Nat.mul_comm k 2]
theorem Kh.mg {n B k b:Nat} {d0 d:Array α} (h:Kh key idx n B k d0 d) (hB:0 < B) (hm:k * (2 * B)+B≤b) (hb:b≤k * (2 * B)+2 * B) (hbn:b≤n) (hfull:b=k * (2 * B)+2 * B∨b=n):Mg key idx (k * (2 * B)) (k * (2 * B)+B) b d:=by
 have e:=Zsp k B
 have e1:(2 * k+1) * B=k * (2 * B)+B:=by rw [Nat.add_mul,Nat.one_mul,← e]
 have e2:(2 * k+1+1) * B=k * (2 * B)+2 * B:=by rw [Nat.add_mul,Nat.one_mul,e1];omega
 refine ⟨?_,?_,fun p q h1 h2 h3 h4=>h.rank p q h1 (by omega) (by omega) (by omega) ?_⟩
 ·have:=h.rest (2 * k) (Yo _)
  rwa [e1,Nat.min_eq_left (by omega),← e] at this
 ·have:=h.rest (2 * k+1) (by omega)
  rw [e1,e2] at this
  rcases hfull with hf|hf
  ·rw [← hf,Nat.min_eq_left hbn] at this;exact this
  rw [Nat.min_eq_right (by omega),← hf] at this;exact this
 have d1:p / B=2 * k:=Kb (by omega) (by omega)
 have d2:2 * k+1≤q / B:=by rw [Nat.le_div_iff_mul_le hB];omega
 omega
theorem Kh.step {n B k b:Nat} {d0 d d':Array α} (h:Kh key idx n B k d0 d) (hn:n=d.size) (hb:b≤k * (2 * B)+2 * B) (hbn:b≤n) (hm:Merged key idx (k * (2 * B)) b d d') :
 PermIn 0 n d0 d'∧Bb idx n (2 * B) 0 d'∧(∀ p,p < k * (2 * B)∨b≤p→d'[p]! = d[p]!)∧SortedIn (lxK key idx) (k * (2 * B)) b d':=by
 refine ⟨permIn_trans _ _ _ _ _ h.perm (permIn_mono _ _ _ _ _ _ (Nat.zero_le _) hbn (by omega) hm.1),h.rank2.perm hm.1 hbn hn (Nat.zero_le _) fun p q p1 p2 q1 q2=>?_,fun p hp=>hm.1.2.1 p hp,hm.2⟩
 have e:(k+1) * (2 * B)=k * (2 * B)+2 * B:=by rw [Nat.add_mul,Nat.one_mul]
 rw [Kb p1 (by omega),Kb q1 (by omega)]
theorem Kh.next {n B k:Nat} {d0 d d':Array α} (h:Kh key idx n B k d0 d) (hn:n=d.size) (hb:k * (2 * B)+2 * B≤n) (hm:Merged key idx (k * (2 * B)) (k * (2 * B)+2 * B) d d'):Kh key idx n B (k+1) d0 d':=by
 obtain ⟨h1,h2,h3,h4⟩:=h.step hn (Yo _) hb hm
 have e:(k+1) * (2 * B)=k * (2 * B)+2 * B:=by rw [Nat.add_mul,Nat.one_mul]
 refine ⟨h1,fun j hj=>?_,fun j hj=>?_,?_,h2⟩
 ·by_cases ej:j=k
  ·subst ej;rw [e];exact h4
  exact SortedIn.keep (h.done j (by omega)) fun p p1 p2=>h3 p (.inl (by have:(j+1) * (2 * B)≤k * (2 * B):=Nat.mul_le_mul_right _ (by omega);omega))
 ·refine SortedIn.keep (h.rest j (by omega)) fun p p1 p2=>h3 p (.inr ?_)
  have:=Nat.mul_le_mul_right B hj
  rw [Nat.mul_add,Nat.add_mul,← Zsp] at this
  omega
 intro p q p1 q1 p2 q2 hlt
 rw [h3 p (.inr (by omega)),h3 q (.inr (by omega))]
 exact h.rank p q (by omega) (by omega) p2 q2 hlt
theorem Kh.fin {n B k:Nat} {d0 d:Array α} (h:Kh key idx n B k d0 d) (hb:n < k * (2 * B)+2 * B) (hl:SortedIn (lxK key idx) (k * (2 * B)) n d):Eg key idx n (2 * B) d0 d:=by
 refine ⟨h.perm,fun j=>?_,h.rank2⟩
 have e:(k+1) * (2 * B)=k * (2 * B)+2 * B:=by rw [Nat.add_mul,Nat.one_mul]
 rcases Nat.lt_trichotomy j k with ej|ej|ej
 ·intro p q p1 p2 p3;exact h.done j ej p q p1 p2 (by omega)
 ·subst ej;intro p q p1 p2 p3;exact hl p q p1 p2 (by omega)
 intro p q p1 p2 p3
 have:(k+1) * (2 * B)≤j * (2 * B):=Nat.mul_le_mul_right _ (by omega)
 omega
theorem Kh.fin_one {n B k:Nat} {d0 d:Array α} (h:Kh key idx n B k d0 d) (hb:n≤k * (2 * B)+B):Eg key idx n (2 * B) d0 d:=by
 rcases Nat.eq_zero_or_pos B with h0|hB
 ·subst h0
  exact ⟨h.perm,fun j p q p1 p2 p3=>by simp at p3,h.rank2⟩
 refine h.fin (by omega) ?_
 have:=h.rest (2 * k) (Yo _)
 rw [← Zsp] at this
 intro p q p1 p2 p3
 refine this p q p1 p2 ?_
 rw [Nat.add_mul,Nat.one_mul,← Zsp]
 omega
theorem Kh.fin_two {n B k:Nat} {d0 d d':Array α} (h:Kh key idx n B k d0 d) (hn:n=d.size) (hm0:k * (2 * B)≤n) (hb:n < k * (2 * B)+2 * B) (hm:Merged key idx (k * (2 * B)) n d d'):Eg key idx n (2 * B) d0 d':=by
 obtain ⟨h1,h2,h3,h4⟩:=h.step hn (by omega) (Yo _) hm
 refine ⟨h1,fun j=>?_,h2⟩
 have e:(k+1) * (2 * B)=k * (2 * B)+2 * B:=by rw [Nat.add_mul,Nat.one_mul]
 rcases Nat.lt_trichotomy j k with ej|ej|ej
 ·have hh:(j+1) * (2 * B)≤k * (2 * B):=Nat.mul_le_mul_right _ (by omega)
  rw [Nat.min_eq_left (by omega)]
  exact SortedIn.keep (h.done j ej) fun p p1 p2=>h3 p (.inl (by omega))
 ·subst ej;intro p q p1 p2 p3;exact h4 p q p1 p2 (by omega)
 intro p q p1 p2 p3
 have:(k+1) * (2 * B)≤j * (2 * B):=Nat.mul_le_mul_right _ (by omega)
 omega
theorem Eg.whole {n B:Nat} {d0 d:Array α} (h:Eg key idx n B d0 d) (hB:n≤B):Merged key idx 0 n d0 d:=by
 refine ⟨h.perm,fun p q p1 p2 p3=>?_⟩
 have:=h.done 0
 rw [Nat.zero_mul,Nat.zero_add,Nat.one_mul,Nat.min_eq_right hB] at this
 exact this p q p1 p2 p3
end
end
section
open Go.Shelf Go.RowKit Go.Lib Go.Sort
variable {α:Type} [Inhabited α]
theorem Zzr (enc:α→Value) (key:α→Int) (idx:α→Nat) (sz blk off cap:Nat) (cb:Array Value) (d0:Array α) (w0:World) (hcmp:CmpLays1 Tryz.prog 67 cb enc (cfK key) blk off sz w0) (R:Row1 enc w0 blk off d0) (hs:d0.size=sz) (hsz:sz≤1000000000000000000)
 (hasc:∀ p q,p < q→q < sz→idx d0[p]! < idx d0[q]!) :
 Calls Tryz.prog 99 #[.slice (some ⟨blk,off,none⟩) sz cap,.int .i64 sz,.func (.func 67) #[] cb] w0 (Ki enc key idx w0 sz blk off 0 sz d0):=by
 have HC:Aside _:=hcmp
 have HI:Aside (Bi key idx sz 0 d0 d0):=Bi.start hasc
 have S0:Aside (SW enc w0 blk off d0 w0):=SW.start R.hH
 have h62:sz < 4611686018427387904:=by omega
 clear hcmp hasc
 go_enter Tryz.func99,Tryz.ntmps99
 go_wp2_with fail
 go_loopg [7,8] sz (fun g1 va vb wr=>∃ (k:Nat) (d:Array α),va=.int .i64 ((k * 20:Nat):Int)∧vb=.int .i64 ((k * 20+20:Nat):Int)∧k * 20≤sz∧sz - k * 20≤g1∧d.size=sz∧Aside (SW enc w0 blk off d wr)∧Aside (Bi key idx sz k d0 d))
 case atStart=>exact ⟨0,d0,by go_num,by go_num,by omega,by omega,hs,S0,HI⟩
 clear S0 HI
 obtain ⟨k,d,rfl,rfl,hk,hg,hd,S1,HI⟩:=hrel
 obtain ⟨a,ha⟩:∃ a,k * 20=a:=⟨_,rfl⟩
 have HA:=Yw ha
 rw [ha] at hk hg ⊢
 clear ha
 by_cases hlt:a+20≤sz
 ·have hltz:((a+20:Nat):Int)≤(sz:Int):=by omega
  have hltz2:(a:Int)+20≤(sz:Int):=by omega
  go_wp2_with fail
  refine (G9 enc key sz blk off cap a (a+20) cb d0 d w0 _ HC.out R hs hd S1.out (by omega) hlt h62).mono ?_
  rintro x w2 ⟨rfl,S2⟩
  have hd2:(insertionSort (ltK key) d a (a+20)).size=sz:=by
   have:=(HI.out.step (k:=k) (b:=k * 20+20) hd.symm (by omega) (by omega) (by rw [HA.out];exact hlt) rfl).1.1
   rw [HA.out] at this;omega
  have HI2:Aside (Bi key idx sz (k+1) d0 (insertionSort (ltK key) d a (a+20))):=HI.out.next hd.symm (by rw [HA.out];exact hlt) (by rw [HA.out])
  have S2':Aside _:=S2
  obtain ⟨d2,hd2e⟩:∃ d2,insertionSort (ltK key) d a (a+20)=d2:=⟨_,rfl⟩
  rw [hd2e] at hd2 HI2 S2'
  have HA2:(k+1) * 20=a+20:=by rw [← HA.out,Nat.add_mul]
  clear S2 S1 HI hd2e
  go_wp2_with fail
  go_roundg (sz - (a+20))
  case measure=>omega
  case rel=>exact ⟨k+1,d2,by rw [HA2];simp,by rw [HA2];go_num,by omega,by omega,hd2,S2',HI2⟩
 have hltz:¬ ((a+20:Nat):Int)≤(sz:Int):=by omega
 have hltz2:¬ (a:Int)+20≤(sz:Int):=by omega
 go_wp2_with fail
 refine (G9 enc key sz blk off cap a sz cb d0 d w0 _ HC.out R hs hd S1.out hk (Yo _) h62).mono ?_
 rintro x w2 ⟨rfl,S2⟩
 have HM:Aside (Eg key idx sz 20 d0 (insertionSort (ltK key) d a sz)):=HI.out.last hd.symm (by rw [HA.out];exact hk) (by rw [HA.out];omega) (by rw [HA.out])
 have S2':Aside _:=S2
 obtain ⟨d2,hd2e⟩:∃ d2,insertionSort (ltK key) d a sz=d2:=⟨_,rfl⟩
 rw [hd2e] at HM S2'
 have hd2:d2.size=sz:=by have:=HM.out.perm.1;omega
 clear S2 S1 HI hd2e HA hd hk hlt hltz hltz2 hg
 go_wp2_with fail
 go_loopg [6,7,8,9] sz (fun g1 vB va vb vm wr=>∃ (B:Nat) (d:Array α),vB=.int .i64 (B:Int)∧0 < B∧B≤2000000000000000000∧sz - B≤g1∧d.size=sz∧Aside (SW enc w0 blk off d wr)∧Aside (Eg key idx sz B d0 d))
 case atStart=>exact ⟨20,d2,by go_num,by omega,by omega,by omega,hd2,S2',HM⟩
 clear S2' HM hd2
 obtain ⟨B,d,rfl,hB0,hB1,hg,hd,S1,HM⟩:=hrel
 by_cases hlt:B < sz
 ·have hltz:(B:Int) < (sz:Int):=by omega
  obtain ⟨C,hC1,hC2⟩:∃ C,C≤2 * B∧2 * B≤C:=⟨2 * B,Yo _,Yo _⟩
  have rC:2 * (B:Int)=(C:Int):=by omega
  have rC2:(B:Int) * 2=(C:Int):=by omega
  have HN:Aside (Kh key idx sz B 0 d0 d):=HM.out.mid
  clear HM
  go_wp2_with fail
  go_loopg [7,8] sz (fun g2 va vb wr2=>∃ (k a:Nat) (d:Array α),va=.int .i64 (a:Int)∧vb=.int .i64 ((a+C:Nat):Int)∧Aside (k * (2 * B)=a)∧a≤sz∧sz - a≤g2∧d.size=sz∧Aside (SW enc w0 blk off d wr2)∧Aside (Kh key idx sz B k d0 d))
  case atStart=>exact ⟨0,0,d,by go_num,by simp,(show 0 * (2 * B)=0 from Nat.zero_mul _),by omega,by omega,hd,S1,HN⟩
  clear S1 HN hd
  obtain ⟨k,a,d,rfl,rfl,HA,hk,hg2,hd,S1,HN⟩:=hrel
  have hCB:C=2 * B:=by omega
  have HCB:Aside _:=hCB
  clear hCB
  by_cases hlt2:a+C≤sz
  ·have hz1:(a:Int)+(C:Int)≤(sz:Int):=by omega
   have hz2:((a+C:Nat):Int)≤(sz:Int):=by omega
   obtain ⟨m,hm1,hm2⟩:∃ m,m≤a+B∧a+B≤m:=⟨a+B,Yo _,Yo _⟩
   have rm:(a:Int)+(B:Int)=(m:Int):=by omega
   have HM2:Aside (Mg key idx a m (a+C) d):=by
    have:=HN.out.mg hB0 (b:=a+C) (by rw [HA.out];omega) (by rw [HA.out];omega) hlt2 (.inl (by rw [HA.out];omega))
    rw [HA.out] at this
    rw [show m=a+B by omega];exact this
   go_wp2_with fail
   refine (merge_any enc key idx sz blk off cap cb d0 w0 HC.out R hs h62 (a+C) a m (a+C) d _ (by omega) (by omega) (by omega) hlt2 hd S1.out HM2.out).mono ?_
   rintro x w3 ⟨rfl,d3,S3,hs3,hM3⟩
   have HN3:Aside (Kh key idx sz B (k+1) d0 d3):=HN.out.next hd.symm (by rw [HA.out];have:=HCB.out;omega) (by rw [HA.out,← HCB.out];exact hM3)
   have S3':Aside _:=S3
   have HA3:Aside ((k+1) * (2 * B)=a+C):=by show _=_;rw [Nat.add_mul,Nat.one_mul,HA.out,HCB.out]
   clear S3 hM3 HN S1 HM2 rm
   go_wp2_with fail
   go_roundg (sz - (a+C))
   case measure=>omega
   case rel=>exact ⟨k+1,a+C,d3,rfl,by go_num,HA3,hlt2,Yo _,hs3,S3',HN3⟩
  have hz1:¬ (a:Int)+(C:Int)≤(sz:Int):=by omega
  have hz2:¬ ((a+C:Nat):Int)≤(sz:Int):=by omega
  obtain ⟨m,hm1,hm2⟩:∃ m,m≤a+B∧a+B≤m:=⟨a+B,Yo _,Yo _⟩
  have rm:(a:Int)+(B:Int)=(m:Int):=by omega
  by_cases hms:m < sz
  ·have hz3:(m:Int) < (sz:Int):=by omega
   have HM2:Aside (Mg key idx a m sz d):=by
    have:=HN.out.mg hB0 (b:=sz) (by rw [HA.out];omega) (by rw [HA.out];omega) (Yo _) (.inr rfl)
    rw [HA.out] at this
    rw [show m=a+B by omega];exact this
   go_wp2_with fail
   refine (merge_any enc key idx sz blk off cap cb d0 w0 HC.out R hs h62 sz a m sz d _ (by omega) (by omega) (by omega) (Yo _) hd S1.out HM2.out).mono ?_
   rintro x w3 ⟨rfl,d3,S3,hs3,hM3⟩
   have HF:Aside (Eg key idx sz C d0 d3):=by
    have:=HN.out.fin_two hd.symm (by rw [HA.out];exact hk) (by rw [HA.out,← HCB.out];omega) (by rw [HA.out];exact hM3)
    rw [HCB.out];exact this
   have S3':Aside _:=S3
   clear S3 hM3 HN S1 HM2 rm
   go_wp2_with fail
   go_roundg (sz - C)
   case measure=>omega
   case rel=>exact ⟨C,d3,by go_num,by omega,by omega,Yo _,hs3,S3',HF⟩
  have hz3:¬ (m:Int) < (sz:Int):=by omega
  have HF:Aside (Eg key idx sz C d0 d):=by
   have:=HN.out.fin_one (by rw [HA.out];omega)
   rw [HCB.out];exact this
  clear HN
  go_wp2_with fail
  go_roundg (sz - C)
  case measure=>omega
  case rel=>exact ⟨C,d,by go_num,by omega,by omega,Yo _,hd,S1,HF⟩
 have hltz:¬ (B:Int) < (sz:Int):=by omega
 go_wp2_with fail
 go_end0
 exact ⟨rfl,d,S1.out,hd,HM.out.whole (by omega)⟩
theorem F0 (enc:α→Value) (key:α→Int) (idx:α→Nat) (sz blk off cap:Nat) (cb:Array Value) (d0:Array α) (w0:World) (hcmp:CmpLays1 Tryz.prog 67 cb enc (cfK key) blk off sz w0) (R:Row1 enc w0 blk off d0) (hs:d0.size=sz) (hsz:sz≤1000000000000000000)
 (hasc:∀ p q,p < q→q < sz→idx d0[p]! < idx d0[q]!) :
 Calls Tryz.prog 66 #[.slice (some ⟨blk,off,none⟩) sz cap,.func (.func 67) #[] cb] w0 (Ki enc key idx w0 sz blk off 0 sz d0):=by
 have HS:Aside _:=Zzr enc key idx sz blk off cap cb d0 w0 hcmp R hs hsz hasc
 clear hcmp hasc R
 go_enter Tryz.func66,Tryz.ntmps66
 go_wp2_with fail
 refine Calls.mono HS.out ?_
 rintro x w2 ⟨rfl,d,S,h1,h2⟩
 have S':Aside _:=S
 have H2:Aside _:=h2
 clear S h2
 go_wp2_with fail
 go_end0
 exact ⟨rfl,d,S'.out,h1,H2.out⟩
end
open Go.RowKit Go.Sort Go.Shelf
def cfI (x y:Int):Int:=if x < y then -1 else if y < x then 1 else 0
theorem Ac (x:Int) (w:World):Calls Tryz.prog 100 #[.int .i64 x] w fun e w'=>e=.returned (.bool false)∧w=w':=by
 go_enter Tryz.func100,Tryz.ntmps100
 go_wp2
 go_ret
 simp
theorem So (x y:Int) (w:World):Calls Tryz.prog 68 #[.int .i64 x,.int .i64 y] w fun e w'=>e=.returned (.int .i64 (cfI x y))∧w=w':=by
 by_cases h1:x < y
 ·have H:=Yw (show cfI x y = -1 by simp [cfI,h1])
  go_enter Tryz.func68,Tryz.ntmps68
  go_wp2_with (go_at_call 100;refine (Ac _ _).mono ?_;rintro e w' ⟨rfl,rfl⟩)
  go_ret
  exact ⟨by rw [H.out];rfl,rfl⟩
 by_cases h2:y < x
 ·have H:=Yw (show cfI x y=1 by simp [cfI,h1,h2])
  go_enter Tryz.func68,Tryz.ntmps68
  go_wp2_with (go_at_call 100;refine (Ac _ _).mono ?_;rintro e w' ⟨rfl,rfl⟩)
  go_ret
  exact ⟨by rw [H.out];rfl,rfl⟩
 have H:=Yw (show cfI x y=0 by simp [cfI,h1,h2])
 go_enter Tryz.func68,Tryz.ntmps68
 go_wp2_with (go_at_call 100;refine (Ac _ _).mono ?_;rintro e w' ⟨rfl,rfl⟩)
 go_ret
 exact ⟨by rw [H.out];rfl,rfl⟩
theorem Zyo {P:Program} {f:FuncId} {args:Array Value} {w:World} {v:Value} (h:Calls P f args w fun e w'=>e=.returned v∧w=w'):Calls P f args w fun e w'=>e=.returned v∧∃ q os',w'=grow (w.drewN q) os' :=
 h.mono fun _ _ ⟨he,hw⟩=>⟨he,0,#[],by rw [grow_empty,← hw];rfl⟩
theorem Tr {S:Nat→Prop} (B i j:Nat) (A:Option Addr) (C:Nat) (os:List Opn) (a b:Opn) (W:World) (hB:W.cell? ⟨B,0,none⟩=some (.slice A os.length C)) (ho:OpsAt W S (.slice A os.length C) os) (ha:os[i]?=some a) (hb:os[j]?=some b) :
 Calls Tryz.prog 67 #[.int .i64 i,.int .i64 j,.pointer (some ⟨B,0,none⟩)] W fun e w'=>e=.returned (.int .i64 (cfI a.dec b.dec))∧∃ q os',w'=grow (W.drewN q) os':=by
 have mixed:=Uw
 obtain ⟨g,p,c,hv,h1,h2,_,hA,_⟩:=ho.get ha
 obtain ⟨g',p',c',hv',_,_,_,hA',_⟩:=ho.get hb
 simp only [Ye,true_and] at hv hv'
 obtain ⟨rfl,rfl⟩:=hv
 simp only [Yd,Addr.mk.injEq,and_true] at hv'
 obtain ⟨⟨rfl,rfl⟩,rfl⟩:=hv'
 have hi:=(Zr.1 ha).1
 have hj:=(Zr.1 hb).1
 have hBl:=lt_of_cell hB
 have kB:=fun n os=>cell_grown (w:=W) hBl hB n os
 have ka:=fun n os=>cell_grown (w:=W) (a:=⟨g,p+i * 23+13,none⟩) hA.1 hA.dec n os
 have kb:=fun n os=>cell_grown (w:=W) (a:=⟨g,p+j * 23+13,none⟩) hA'.1 hA'.dec n os
 have hc:=fun n os=>Zyo (So a.dec b.dec (grow (W.drewN n) os))
 have q1:(0:Int)≤(i:Int):=by omega
 have q2:(i:Int) < (os.length:Int):=by omega
 have q3:(0:Int)≤(j:Int):=by omega
 have q4:(j:Int) < (os.length:Int):=by omega
 obtain ⟨n,hn⟩:∃ n,os.length=n:=⟨_,rfl⟩
 rw [hn] at q2 q4 kB
 clear hn ha hb hA hA' ho hB h1 hi hj
 go_enter Tryz.func67,Tryz.ntmps67
 go_wp2_with fail
 go_quiet_grown (first|(go_at_call 68;refine Calls.grown_of (hc _ _)))
 go_wp2_with fail
 go_ret
 exact ⟨rfl,_,_,rfl⟩
def Jj (os:List Opn) (i:Nat):Int:=match os[i]? with|some o=>o.dec|none=>-1
def Pt (os:List Opn) (i:Nat):Bool:=Jj os i != -1
theorem Jy {os:List Opn} {i:Nat} {o:Opn} (h:os[i]?=some o):Jj os i=o.dec:=by simp [Jj,h]
theorem Bh {os:List Opn} {i:Nat} (h:Pt os i=true):i < os.length:=by
 unfold Pt Jj at h
 cases e:os[i]? with
 | none=>rw [e] at h;simp at h
 | some o=>exact (Zr.1 e).1
def lxO (os:List Opn) (i j:Nat):Bool:=decide (Jj os i < Jj os j∨Jj os i=Jj os j∧i < j)
structure Cf (os:List Opn) (l:List Nat):Prop where
 asc:l.Pairwise (fun i j=>lxO os i j=true)
 mem:∀ i,i∈l↔Pt os i=true
theorem Ku {α:Type} {R:α→α→Prop} (irr:∀ x,¬ R x x) (asy:∀ x y,R x y→¬ R y x):∀ {a b:List α},a.Pairwise R→b.Pairwise R→(∀ x,x∈a↔x∈b)→a=b
 | [],[],_,_,_=>rfl
 | [],y::b,_,_,h=>by have:=(h y).2 (List.mem_cons_self ..);simp at this
 | x::a,[],_,_,h=>by have:=(h x).1 (List.mem_cons_self ..);simp at this
 | x::a,y::b,ha,hb,h=>by
  rw [List.pairwise_cons] at ha hb
  have e:x=y:=by
   have h1:=(h x).1 (List.mem_cons_self ..)
   have h2:=(h y).2 (List.mem_cons_self ..)
   rcases Zg.1 h1 with e|h1
   ·exact e
   rcases Zg.1 h2 with e|h2
   ·exact e.symm
   exact absurd (ha.1 y h2) (asy _ _ (hb.1 x h1))
  subst e
  congr 1
  refine Ku irr asy ha.2 hb.2 fun z=>?_
  constructor
  ·intro hz
   rcases Zg.1 ((h z).1 (List.mem_cons_of_mem _ hz)) with e|h1
   ·subst e;exact absurd (ha.1 z hz) (irr z)
   exact h1
  intro hz
  rcases Zg.1 ((h z).2 (List.mem_cons_of_mem _ hz)) with e|h1
  ·subst e;exact absurd (hb.1 z hz) (irr z)
  exact h1
theorem Cf.unique {os:List Opn} {a b:List Nat} (ha:Cf os a) (hb:Cf os b):a=b :=
 Ku (fun x=>by simp [lxO]) (fun x y=>by simp only [lxO,decide_eq_true_eq];omega) ha.asc hb.asc fun x=>by rw [ha.mem,hb.mem]
def El (os:List Opn) (i:Nat):List Nat:=(List.range i).filter (Pt os)
theorem Oa (os:List Opn) (i:Nat):El os (i+1)=if Pt os i then El os i++[i] else El os i:=by
 unfold El
 rw [List.range_succ,List.filter_append]
 by_cases h:Pt os i=true<;>simp [h]
theorem Nr (os:List Opn) (i:Nat):(El os i).length≤i:=by
 have:=List.length_filter_le (Pt os) (List.range i)
 simpa [El] using this
theorem Dy {os:List Opn} {i j:Nat}:j∈El os i↔j < i∧Pt os j=true:=by simp [El]
theorem Mi (os:List Opn) (i:Nat):(El os i).Pairwise (· < ·):=List.Pairwise.filter _ List.pairwise_lt_range
def Ds (os:List Opn):List Nat:=(El os os.length).mergeSort (fun i j=>!lxO os j i)
theorem Fm (os:List Opn):Cf os (Ds os):=by
 have hs:(Ds os).Pairwise (fun i j=>(!lxO os j i)=true):=List.pairwise_mergeSort
  (fun a b c h1 h2=>by simp only [Bool.not_eq_true',lxO,decide_eq_false_iff_not] at h1 h2 ⊢;omega)
  (fun a b=>by simp only [Bool.or_eq_true,Bool.not_eq_true',lxO,decide_eq_false_iff_not];omega) _
 have hp:=List.mergeSort_perm (El os os.length) (fun i j=>!lxO os j i)
 have hn:(Ds os).Nodup:=hp.nodup_iff.2 ((Mi os os.length).imp fun h=>Nat.ne_of_lt h)
 refine ⟨?_,fun i=>?_⟩
 ·refine (hs.and hn).imp fun {a b} ⟨h1,h2⟩=>?_
  simp only [Bool.not_eq_true',lxO,decide_eq_false_iff_not,decide_eq_true_eq] at h1 ⊢
  omega
 rw [Ds,hp.mem_iff,Dy]
 exact ⟨fun h=>h.2,fun h=>⟨Bh h,h⟩⟩
theorem Ij (os:List Opn):(Ds os).length≤os.length:=by
 rw [Ds,List.length_mergeSort];exact Nr _ _
section
open Go.ChangeShapes Go.WideShapes Go.ChangeAt Go.RowKit Go.Joins Go.Deep
theorem Zub:Tryz.prog.cellsOf 3=1:=by kernel_rfl
theorem Zo4:Tryz.prog.cellsOf 28=1:=by kernel_rfl
theorem Zw4:Tryz.prog.cellsOf 9=1:=by kernel_rfl
theorem Zoa:Tryz.prog.cellsOf 49=1:=by kernel_rfl
theorem Zre:Tryz.prog.cellsOf 51=4:=by kernel_rfl
theorem Zr0:Tryz.prog.cellsOf 53=8:=by kernel_rfl
theorem Zo5:Tryz.prog.cellsOf 55=23:=by kernel_rfl
theorem Znv:Tryz.prog.cellsOf 109=3:=by kernel_rfl
theorem Znz:Tryz.prog.bytesOf 55=232:=by kernel_rfl
theorem Zo9:Tryz.prog.bytesOf 109=48:=by kernel_rfl
section
variable {H:Type} {enc:TypeId×Value→H} {w:World} {fuel:Nat} {cs:List Value} {x:DataW H×List MemPlace}
theorem open_rec (h:DataW.trod enc Tryz.prog w 0 (fun _=>true) true fuel 51 cs=some x):∃ r:Rc,cs=r.cells:=by
 obtain ⟨xs,n,_,_,hl,hlen,hf⟩:=DataW.trod_struct Tryz.underlying51 h
 rw [Zre] at hl
 match cs,hl,xs,hlen with
 | [v0,v1,v2,v3],_,[y0,y1,y2,y3],_ =>
  have g0:=hf 0 _ rfl
  have g1:=hf 1 _ rfl
  have g2:=hf 2 _ rfl
  have g3:=hf 3 _ rfl
  simp [Zub,Zw4] at g0 g1 g2 g3
  trace_state
  obtain ⟨s0,e0,_,_⟩:=DataW.trod_int Tryz.underlying3 g0
  obtain ⟨s1,e1,_,_⟩:=DataW.trod_int Tryz.underlying3 g1
  obtain ⟨s2,e2,_,_⟩:=DataW.trod_string Tryz.underlying9 g2
  obtain ⟨s3,e3,_,_⟩:=DataW.trod_int Tryz.underlying3 g3
  simp at e0 e1 e2 e3
  subst e0 e1 e2 e3
  exact ⟨⟨s0,s1,s2,s3⟩,rfl⟩
def Znu (r:Zy1):List Value:=[.int .i64 r.e,.int .i64 r.at_,.string r.nm,.int .i64 r.rc.st,.int .i64 r.rc.ow,.string r.rc.nm,.int .i64 r.rc.dl,.int .i64 r.tick]
theorem Id (h:DataW.trod enc Tryz.prog w 0 (fun _=>true) true fuel 53 cs=some x):∃ r:Zy1,cs=Znu r:=by
 obtain ⟨xs,n,_,_,hl,hlen,hf⟩:=DataW.trod_struct Tryz.underlying53 h
 rw [Zr0] at hl
 match cs,hl,xs,hlen with
 | [v0,v1,v2,v3,v4,v5,v6,v7],_,[y0,y1,y2,y3,y4],_ =>
  have g0:=hf 0 _ rfl
  have g1:=hf 1 _ rfl
  have g2:=hf 2 _ rfl
  have g3:=hf 3 _ rfl
  have g4:=hf 4 _ rfl
  simp [Zub,Zw4,Zo4,Zre] at g0 g1 g2 g3 g4
  obtain ⟨s0,e0,_,_⟩:=DataW.trod_int Tryz.underlying28 g0
  obtain ⟨s1,e1,_,_⟩:=DataW.trod_int Tryz.underlying3 g1
  obtain ⟨s2,e2,_,_⟩:=DataW.trod_string Tryz.underlying9 g2
  obtain ⟨r,e3⟩:=open_rec g3
  obtain ⟨s4,e4,_,_⟩:=DataW.trod_int Tryz.underlying3 g4
  simp [Rc.cells] at e0 e1 e2 e3 e4
  obtain ⟨e30,e31,e32,e33⟩:=e3
  subst e0 e1 e2 e30 e31 e32 e33 e4
  exact ⟨⟨s0,s1,s2,r,s4⟩,rfl⟩
theorem Zsy {c:Value} (h:DataW.trod enc Tryz.prog w 0 (fun _=>true) true fuel 49 [c]=some x) :
 ∃ ns,Wq w (fun _=>True) c ns∧c.oneCell'=true∧((x.1.weights Tryz.prog 49).all (·≤reachBytes)=true→ns.length * 48≤reachBytes):=by
 rcases open_slice Tryz.underlying49 h with ⟨hcs,rfl⟩ | ⟨a,len,cap,m,n,D,Pl,hcs,_,hl,hm,hmm,rfl,hel⟩
 ·simp only [List.cons.injEq,and_true] at hcs
  subst hcs
  exact ⟨[],Rd.nil _ _ _,rfl,fun _=>by simp⟩
 simp only [List.cons.injEq,and_true] at hcs
 subst hcs
 have hlm:len≤m:=by rw [hmm];simp;exact hl
 have each:∀ i,i < len→∃ q:ByteArray×ByteArray×ByteArray,w.cell? (a.add (i * 3))=some (.string q.1)∧w.cell? (a.add (i * 3+1))=some (.string q.2.1)∧w.cell? (a.add (i * 3+2))=some (.string q.2.2):=by
  intro i hi
  obtain ⟨cs',h1,h2⟩:=hel i (by omega)
  rw [Znv] at h1
  obtain ⟨_,hlen,hcell⟩:=World.cells?_some h1
  obtain ⟨y0,y1,y2,k,hx,_,g0,g1,g2⟩:=trod_struct3 Tryz.underlying109 h2
  match cs',hlen with
  | [v0,v1,v2],_ =>
   simp only [Zw4] at g0 g1 g2
   obtain ⟨s0,e0,f0,_⟩:=DataW.trod_string Tryz.underlying9 g0
   obtain ⟨s1,e1,f1,_⟩:=DataW.trod_string Tryz.underlying9 g1
   obtain ⟨s2,e2,f2,_⟩:=DataW.trod_string Tryz.underlying9 g2
   simp at e0 e1 e2
   subst e0 e1 e2
   have k0:=hcell 0 (by omega)
   have k1:=hcell 1 (by omega)
   have k2:=hcell 2 (by omega)
   rw [add_add] at k0 k1 k2
   exact ⟨(s0,s1,s2),by simpa using k0,by simpa using k1,by simpa using k2⟩
 obtain ⟨q,hq⟩:=choose_lt each
 refine ⟨(List.range len).map fun i=>⟨(q i).1,(q i).2.1,(q i).2.2⟩,⟨by rw [Ko],some a,cap,by simp,by simpa using hl,hm,fun h0=>?_⟩,rfl,fun hz=>?_⟩
 ·simp only [Zq,List.length_range] at h0
  have c0:=(hq 0 h0).1
  simp only [Nat.zero_mul] at c0
  have hspot:=Gi c0
  obtain ⟨b,off,spot⟩:=a
  have hs0:spot=none:=hspot
  subst hs0
  have hadd:∀ k,(⟨b,off,none⟩:Addr).add k=⟨b,off+k,none⟩:=fun k=>by unfold Addr.add;by_cases hk:k=0<;>simp [hk]
  simp only [hadd] at hq
  refine ⟨b,off,rfl,trivial,?_,Ld (fun k=>w.cell? ⟨b,k,none⟩) _ off fun i n' hi=>?_⟩
  ·rcases Nat.lt_or_ge b w.heap.size with hlt|hge
   ·exact hlt
   have:=(hq 0 h0).1
   simp [World.cell?,Array.getElem?_eq_none hge] at this
  simp only [Zn] at hi
  have hil:i < len:=by
   rcases Nat.lt_or_ge i len with hlt|hge
   ·exact hlt
   rw [List.getElem?_eq_none (by simpa using hge)] at hi;simp at hi
  rw [List.getElem?_range hil] at hi
  simp only [Option.map_some,Yd] at hi
  subst hi
  obtain ⟨r0,r1,r2⟩:=hq i hil
  exact ⟨r0,by rw [Nat.add_assoc];exact r1,by rw [Nat.add_assoc];exact r2⟩
 simp only [DataW.weights,Tryz.underlying49,List.all_cons,Bool.and_eq_true,decide_eq_true_eq,Zq,List.length_range,Zo9] at hz
 simp only [Zq,List.length_range]
 have:=hz.1
 omega
theorem Zpt (h:DataW.trod enc Tryz.prog w 0 (fun _=>true) true fuel 55 cs=some x) :
 ∃ o:Opn,cs=opC o∧Wq w (fun _=>True) o.nv o.ns∧o.nv.oneCell'=true∧((x.1.weights Tryz.prog 55).all (·≤reachBytes)=true→o.ns.length * 48≤reachBytes):=by
 obtain ⟨xs,n,_,rfl,hl,hlen,hf⟩:=DataW.trod_struct Tryz.underlying55 h
 rw [Zo5] at hl
 match cs,hl,xs,hlen with
 | [v0,v1,v2,v3,v4,v5,v6,v7,v8,v9,v10,v11,v12,v13,v14,v15,v16,v17,v18,v19,v20,v21,v22],_,[y0,y1,y2,y3,y4,y5,y6,y7,y8],_ =>
  have g0:=hf 0 _ rfl
  have g1:=hf 1 _ rfl
  have g2:=hf 2 _ rfl
  have g3:=hf 3 _ rfl
  have g4:=hf 4 _ rfl
  have g5:=hf 5 _ rfl
  have g6:=hf 6 _ rfl
  have g7:=hf 7 _ rfl
  have g8:=hf 8 _ rfl
  clear hf h
  simp [Zub,Zoa,Zr0] at g0 g1 g2 g3 g4 g5 g6 g7 g8
  obtain ⟨s0,e0,_,_⟩:=DataW.trod_int Tryz.underlying3 g0
  obtain ⟨s1,e1,_,_⟩:=DataW.trod_int Tryz.underlying3 g1
  obtain ⟨s2,e2,_,_⟩:=DataW.trod_int Tryz.underlying3 g2
  obtain ⟨ns,hns,hone,hw⟩:=Zsy (c:=v3) g3
  obtain ⟨r4,e4⟩:=Id g4
  obtain ⟨s5,e5,_,_⟩:=DataW.trod_int Tryz.underlying3 g5
  obtain ⟨s6,e6,_,_⟩:=DataW.trod_int Tryz.underlying3 g6
  obtain ⟨s7,e7,_,_⟩:=DataW.trod_int Tryz.underlying3 g7
  obtain ⟨r8,e8⟩:=Id g8
  simp [Znu] at e0 e1 e2 e4 e5 e6 e7 e8
  obtain ⟨e40,e41,e42,e43,e44,e45,e46,e47⟩:=e4
  obtain ⟨e80,e81,e82,e83,e84,e85,e86,e87⟩:=e8
  subst e0 e1 e2 e5 e6 e7 e40 e41 e42 e43 e44 e45 e46 e47 e80 e81 e82 e83 e84 e85 e86 e87
  refine ⟨⟨s0,s1,s2,v3,ns,r4,s5,s6,s7,r8⟩,rfl,hns,hone,fun hz=>hw (List.all_eq_true.2 fun k hk=>List.all_eq_true.1 hz k ?_)⟩
  simp only [DataW.weights,Tryz.underlying55]
  exact DataW.weights_mem_each (j:=3) rfl rfl k hk
theorem Kz {P:Program} {e:TypeId} {d:DataW H} {n:Nat}:∀ {l:List (DataW H)},d∈l→n∈d.weights P e→n∈DataW.weightsAll P e l
 | [],h,_=>by simp at h
 | a::r,h,hn=>by
  simp only [DataW.weightsAll,Zj]
  rcases Zg.1 h with rfl|h
  ·exact .inl hn
  exact .inr (Kz h hn)
theorem Om (f:Nat→Option Value):∀ (l:List Opn) (p:Nat),(∀ i o,l[i]?=some o→∀ k,k < 23→f (p+i * 23+k)=(opC o)[k]?)→∀ j u,(Gh l)[j]?=some u→f (p+j)=some u
 | [],_,_,j,u,h=>by simp [Gh] at h
 | o::l,p,hf,j,u,h=>by
  rw [Gh] at h
  by_cases hj:j < 23
  ·rw [Ze (by rw [Qh];exact hj)] at h
   have:=hf 0 o rfl j hj
   rw [h] at this
   simpa using this
  rw [Zd (by rw [Qh];omega),Qh] at h
  have:=Om f l (p+23) (fun i o' hi k hk=>by
   have g:=hf (i+1) o' (by simpa using hi) k hk
   rw [show p+(i+1) * 23+k=p+23+i * 23+k by omega] at g
   exact g) (j - 23) u h
  rw [show p+j=p+23+(j - 23) by omega]
  exact this
theorem open_ops {c:Value} (h:DataW.trod enc Tryz.prog w 0 (fun _=>true) true fuel 23 [c]=some x) (hz:(x.1.weights Tryz.prog 23).all (·≤reachBytes)=true) :
 ∃ os,OpsAt w (fun _=>True) c os∧(∀ o∈os,o.nv.oneCell'=true)∧os.length * 232≤reachBytes∧∀ o∈os,o.ns.length * 48≤reachBytes:=by
 rcases open_slice Tryz.underlying23 h with ⟨hcs,rfl⟩ | ⟨a,len,cap,m,n,D,Pl,hcs,_,hl,hm,hmm,rfl,hel⟩
 ·simp only [List.cons.injEq,and_true] at hcs
  subst hcs
  exact ⟨[],⟨Rd.nil _ _ _,by simp⟩,by simp,by simp,by simp⟩
 simp only [List.cons.injEq,and_true] at hcs
 subst hcs
 have hlm:len≤m:=by rw [hmm];simp;exact hl
 simp only [DataW.weights,Tryz.underlying23,List.all_cons,Bool.and_eq_true,decide_eq_true_eq,Zq,List.length_range,Znz,List.all_append] at hz
 obtain ⟨hz1,hz2,_⟩:=hz
 have each:∀ i,i < len→∃ o:Opn,(∀ k,k < 23→w.cell? (a.add (i * 23+k))=(opC o)[k]?)∧Wq w (fun _=>True) o.nv o.ns∧o.nv.oneCell'=true∧o.ns.length * 48≤reachBytes:=by
  intro i hi
  obtain ⟨cs',h1,h2⟩:=hel i (by omega)
  rw [Zo5] at h1
  obtain ⟨_,hlen,hcell⟩:=World.cells?_some h1
  obtain ⟨o,rfl,hn,ho,hw⟩:=Zpt h2
  refine ⟨o,fun k hk=>?_,hn,ho,hw (List.all_eq_true.2 fun z hk=>List.all_eq_true.1 hz2 z (Kz (List.mem_map.2 ⟨i,List.mem_range.2 hi,rfl⟩) hk))⟩
  have k0:=hcell k hk
  rw [add_add] at k0
  rw [k0]
 haveI:Inhabited Opn:=⟨⟨0,0,0,.slice none 0 0,[],⟨0,0,⟨#[]⟩,default,0⟩,0,0,0,⟨0,0,⟨#[]⟩,default,0⟩⟩⟩
 obtain ⟨q,hq⟩:=choose_lt each
 have hmem:∀ o∈(List.range len).map q,∃ i,i < len∧q i=o:=fun o ho=>by
  obtain ⟨i,hi,rfl⟩:=List.mem_map.1 ho
  exact ⟨i,List.mem_range.1 hi,rfl⟩
 refine ⟨(List.range len).map q,⟨⟨by rw [Bt],some a,cap,by simp,by simpa using hl,hm,fun h0=>?_⟩,fun o ho=>?_⟩,fun o ho=>?_,?_,fun o ho=>?_⟩
 ·simp only [Zq,List.length_range] at h0
  have c0:=(hq 0 h0).1 0 (by omega)
  simp only [Nat.zero_mul,Nat.add_zero] at c0
  have c0':w.cell? (a.add 0)=some (.int .i64 (q 0).cl):=c0
  have hspot:=Gi c0'
  obtain ⟨b,off,spot⟩:=a
  have hs0:spot=none:=hspot
  subst hs0
  have hadd:∀ k,(⟨b,off,none⟩:Addr).add k=⟨b,off+k,none⟩:=fun k=>by unfold Addr.add;by_cases hk:k=0<;>simp [hk]
  simp only [hadd] at hq c0'
  refine ⟨b,off,rfl,trivial,?_,Om (fun k=>w.cell? ⟨b,k,none⟩) _ off fun i o hi k hk=>?_⟩
  ·rcases Nat.lt_or_ge b w.heap.size with hlt|hge
   ·exact hlt
   simp [World.cell?,Array.getElem?_eq_none hge] at c0'
  simp only [Zn] at hi
  have hil:i < len:=by
   rcases Nat.lt_or_ge i len with hlt|hge
   ·exact hlt
   rw [List.getElem?_eq_none (by simpa using hge)] at hi;simp at hi
  rw [List.getElem?_range hil] at hi
  simp only [Option.map_some,Yd] at hi
  subst hi
  rw [Nat.add_assoc];exact (hq i hil).1 k hk
 ·obtain ⟨i,hi,rfl⟩:=hmem o ho;exact (hq i hi).2.1
 ·obtain ⟨i,hi,rfl⟩:=hmem o ho;exact (hq i hi).2.2.1
 ·simp only [Zq,List.length_range];omega
 obtain ⟨i,hi,rfl⟩:=hmem o ho;exact (hq i hi).2.2.2
end
end
end Go.Proofs.YtnbclgbicnpmnaaGreat
