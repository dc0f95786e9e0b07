/- Lemmas of this claim: Stab, StabA. Conditions: as named. -/
import Derived.Sort.LotA
import Derived.Deep.LoopGhost
import Derived.Shelf.SlSortCmp.Kit1
import Derived.Sort.WalkA
import Derived.Test.YtnbclgbicnpmnaaGreatA02
namespace Go.Proofs.YtnbclgbicnpmnaaGreat
open Go.RowKit Go.Sort
set_option maxHeartbeats 0
set_option maxRecDepth 100000
set_option linter.all false
section
open Go.Sort
section
variable {α:Type} [Inhabited α] (key:α→Int) (idx:α→Nat)
def ltK(x y:α):Bool:=decide (key x<key y)
def lxK(x y:α):Bool:=decide (key x<key y∨key x=key y∧idx x<idx y)
omit [Inhabited α]in
theorem Zzv:SWO (lxK key idx) where
 irrefl x:=by simp[lxK]
 trans x y z:=by simp only[lxK,Zlu];omega
 ntrans x y z:=by simp only[lxK,Zlt];omega
variable {key idx}
omit [Inhabited α]in
theorem Zv8{x y:α}(h:idx y<idx x):lxK key idx x y=ltK key x y:=by
 simp only[lxK,ltK,decide_eq_decide];omega
theorem Fh(a:Nat):∀ (j:Nat) (d:Array α),j<d.size→(∀ p,a≤p→p<j→idx d[p]! < idx d[j]!)→insInner (ltK key) a j d=insInner (lxK key idx) a j d
 | 0,d,_,_=>by simp[insInner]
 | j+1,d,hj,h=>by
  unfold insInner;by_cases ha:j+1 > a
  ·rw[Zv8 (h j (by omega) (by omega))];split
   ·refine Fh a j _ (by rw[swp_size];omega) fun p hp hpj=>?_
    rw[swp_get d hj (by omega),swp_get d hj (by omega),Zm2 (by omega),Zm2 (by omega),Zm4 rfl];exact h p hp (by omega)
   rfl
  simp[ha]
theorem Lv(a b:Nat):∀ (g i:Nat) (d:Array α),b-i=g→a<i→b≤d.size→(∀ p q,a≤p→p<q→i≤q→q<b→idx d[p]! < idx d[q]!)→insOuter (ltK key) a b i d=insOuter (lxK key idx) a b i d
 | 0,i,d,hg,_,_,_=>by
  have h:¬ i<b:=by omega
  unfold insOuter;rw[Zm2 h,Zm2 h]
 | g+1,i,d,hg,hi,hb,h=>by
  have hib:i<b:=by omega
  rw[insOuter,Zm4 hib,Fh a i d (by omega) (fun p h1 h2=>h p i h1 h2 (Yn _) hib)]
  conv=>rhs;rw[insOuter,Zm4 hib]
  have hp:PermIn a (i+1) d (insInner (lxK key idx) a i d):=by
   have:∀ (j:Nat) (e:Array α),j≤i→e.size=d.size→PermIn a (i+1) e (insInner (lxK key idx) a j e):=by
    intro j
    induction j with
    | zero=>intro e _ _;simp[insInner];exact Zk6 _ _ _
    | succ j ih =>
     intro e hj he;unfold insInner;split
     ·rename_i hc;simp only[Zlp,Zlu]at hc;exact Zkg _ _ _ _ _ (swp_permIn e a (i+1) (j+1) j (by omega) (by omega) (by omega) (by omega) (by omega)) (ih _ (by omega) (by rw[swp_size];exact he))
     exact Zk6 _ _ _
   exact this i d (Yn _) rfl
  refine Lv a b g (i+1) _ (by omega) (by omega) (by rw[hp.1];exact hb) fun p q hp1 hpq hq1 hqb=>?_
  rw[hp.2.1 q (by omega)];by_cases hpi:p<i+1
  ·exact Zi4 d _ a (i+1) (fun x=>idx x<idx d[q]!) (by omega) hp (fun k h1 h2=>h k q h1 (by omega) (by omega) hqb) p hp1 hpi
  rw[hp.2.1 p (by omega)];exact h p q hp1 hpq (by omega) hqb
theorem Fg{a b:Nat}{d:Array α}(hb:b≤d.size)(h:∀ p q,a≤p→p<q→q<b→idx d[p]! < idx d[q]!):insertionSort (ltK key) d a b=insertionSort (lxK key idx) d a b :=
 Lv a b _ (a+1) d rfl (by omega) hb fun p q h1 h2 _ h3=>h p q h1 h2 h3
structure Mg(key:α→Int)(idx:α→Nat)(a m b:Nat)(d:Array α):Prop where
 left:SortedIn (lxK key idx) a m d
 right:SortedIn (lxK key idx) m b d
 sides:∀ p q,a≤p→p<m→m≤q→q<b→idx d[p]! < idx d[q]!
def Merged(key:α→Int)(idx:α→Nat)(a b:Nat)(d d':Array α):Prop:=PermIn a b d d'∧SortedIn (lxK key idx) a b d'
theorem Mg.done_left{a b:Nat}{d:Array α}(h:Mg key idx a a b d):Merged key idx a b d d:=⟨Zk6 _ _ _,h.right⟩
theorem Mg.done_right{a b:Nat}{d:Array α}(h:Mg key idx a b b d):Merged key idx a b d d:=⟨Zk6 _ _ _,h.left⟩
theorem Qp{a b:Nat}{d:Array α}(h:SortedIn (lxK key idx) a b d){p q:Nat}(hp:a≤p)(hpq:p≤q)(hq:q<b):key d[p]!≤key d[q]!:=by
 by_cases e:p=q
 ·subst e;exact Zl7 _
 have:=h p q hp (by omega) hq;simp only[lxK,Zlt]at this;omega
theorem Mq{a b i:Nat}{d d':Array α}(h:Mg key idx a (a+1) b d)(hi:a+1≤i)(hib:i≤b)(hperm:PermIn a b d d')
 (hlo:∀ q,a+1≤q→q<i→ltK key d[q]! d[a]! = true) (hhi:∀ q,i≤q→q<b→ltK key d[q]! d[a]! = false)
 (hd:∀ p,a≤p→p<b→d'[p]! = if p<i-1 then d[p+1]! else if p=i-1 then d[a]! else d[p]!):Merged key idx a b d d':=by
 refine⟨hperm,fun p q hap hpq hqb=>?_⟩;have hs:∀ q,a+1≤q→q<b→lxK key idx d[q]! d[a]! = ltK key d[q]! d[a]!:=fun q h1 h2=>Zv8 (h.sides a q (Yn _) (by omega) h1 h2)
 rw[hd p hap (by omega),hd q (by omega) hqb];by_cases hp1:p<i-1
 ·rw[Zm4 hp1];by_cases hq1:q<i-1
  ·rw[Zm4 hq1];exact h.right (p+1) (q+1) (by omega) (by omega) (by omega)
  rw[Zm2 hq1];by_cases hq2:q=i-1
  ·rw[Zm4 hq2];have:=hlo (p+1) (by omega) (by omega);rw[← hs _ (by omega) (by omega)]at this;exact(Zzv key idx).asymmA this
  rw[Zm2 hq2];exact h.right (p+1) q (by omega) (by omega) hqb
 rw[Zm2 hp1,Zm2 (show ¬ q<i-1 by omega),Zm2 (show ¬ q=i-1 by omega)];by_cases hp2:p=i-1
 ·rw[Zm4 hp2,hs q (by omega) hqb];exact hhi q (by omega) hqb
 rw[Zm2 hp2];exact h.right p q (by omega) hpq hqb
theorem F8{a m i:Nat}{d d':Array α}(h:Mg key idx a m (m+1) d)(hi:a≤i)(him:i≤m)(hperm:PermIn a (m+1) d d')
 (hlo:∀ q,a≤q→q<i→ltK key d[m]! d[q]! = false) (hhi:∀ q,i≤q→q<m→ltK key d[m]! d[q]! = true)
 (hd:∀ p,a≤p→p<m+1→d'[p]! = if p=i then d[m]! else if i<p then d[p-1]! else d[p]!):Merged key idx a (m+1) d d':=by
 refine⟨hperm,fun p q hap hpq hqb=>?_⟩;have hs:∀ q,a≤q→q<m→lxK key idx d[m]! d[q]! = ltK key d[m]! d[q]!:=fun q h1 h2=>Zv8 (h.sides q m h1 h2 (Yn _) (by omega))
 rw[hd p hap (by omega),hd q (by omega) hqb];by_cases hp1:p=i
 ·rw[Zm4 hp1,Zm2 (by omega),Zm4 (by omega)];have:=hhi (q-1) (by omega) (by omega);rw[← hs _ (by omega) (by omega)]at this;exact(Zzv key idx).asymmA this
 rw[Zm2 hp1];by_cases hp2:i<p
 ·rw[Zm4 hp2,Zm2 (by omega),Zm4 (by omega)];exact h.left (p-1) (q-1) (by omega) (by omega) (by omega)
 rw[Zm2 hp2];by_cases hq1:q=i
 ·rw[Zm4 hq1,hs p hap (by omega)];exact hlo p hap (by omega)
 rw[Zm2 hq1];by_cases hq2:i<q
 ·rw[Zm4 hq2];exact h.left p (q-1) hap (by omega) (by omega)
 rw[Zm2 hq2];exact h.left p q hap hpq (by omega)
def Eu(f:Nat→α)(a b n:Nat)(p:Nat):α:=if a≤p∧p<a+n then f (p-a+b)else if b≤p∧p<b+n then f (p-b+a)else f p
def Ag(f:Nat→α)(a m b:Nat)(p:Nat):α:=if a≤p∧p<a+(b-m)then f (p+(m-a))else if a+(b-m)≤p∧p<b then f (p-(b-m))else f p
omit [Inhabited α]in
theorem Zmx{f:Nat→α}{m i j:Nat}(h1:j<i)(h2:i≤m)(hj:0<j)(p:Nat):Ag (Eu f (m-i) m j) (m-(i-j)) m (m+j) p=Ag f (m-i) m (m+j) p:=by
 unfold Ag Eu;repeat' split
 all_goals first|(exfalso;omega)|rfl|(congr 1;omega)
omit [Inhabited α]in
theorem Zmw{f:Nat→α}{m i j:Nat}(h1:i<j)(h2:i≤m)(hi:0<i)(p:Nat):Ag (Eu f (m-i) (m+j-i) i) (m-i) m (m+(j-i)) p=Ag f (m-i) m (m+j) p:=by
 unfold Ag Eu;repeat' split
 all_goals first|(exfalso;omega)|rfl|(congr 1;omega)
omit [Inhabited α]in
theorem Zmy{f:Nat→α}{m i:Nat}(h2:i≤m)(p:Nat):Eu f (m-i) m i p=Ag f (m-i) m (m+i) p:=by
 unfold Ag Eu;repeat' split
 all_goals first|(exfalso;omega)|rfl|(congr 1;omega)
theorem Zx1(d:Array α){f:Nat→α}{a b n:Nat}(hd:∀ p,d[p]! = Eu f a b n p)(ha:a+n<d.size)(hb:b+n<d.size)(hdis:n<b-a∨n<a-b)(p:Nat) :
 (swp d (a+n) (b+n))[p]! = Eu f a b (n+1) p:=by
 rw[swp_get d ha hb,hd,hd,hd];unfold Eu;repeat' split
 all_goals first|(exfalso;omega)|rfl|(congr 1;omega)
theorem Ia{a m b mid s e:Nat}{d d':Array α}(h:Mg key idx a m b d)(hb:b≤d.size)(_ham:a≤m)(_hmb:m≤b)(hs1:a≤s)(hs2:s≤m)(he1:m≤e)(he2:e≤b)(hse:s+e=mid+m)
 (_hsm:s≤mid) (_hme:mid≤e)
 (hlo:a<s→e<b→ltK key d[e]! d[s-1]! = false) (hhi:s<m→m<e→ltK key d[e-1]! d[s]! = true)
 (hperm:PermIn s e d d') (hd:∀ p,d'[p]! = Ag (fun k=>d[k]!) s m e p) :
 Mg key idx a s mid d'∧Mg key idx mid e b d'∧PermIn a b d d'∧∀ p q,a≤p→p<mid→mid≤q→q<b→lxK key idx d'[q]! d'[p]! = false:=by
 have W:=Zzv key idx;have hlo':a<s→e<b→lxK key idx d[e]! d[s-1]! = false:=fun h1 h2=>by rw[Zv8 (h.sides (s-1) e (by omega) (by omega) (by omega) h2)];exact hlo h1 h2
 have hhi':s<m→m<e→lxK key idx d[e-1]! d[s]! = true:=fun h1 h2=>by rw[Zv8 (h.sides s (e-1) (by omega) (by omega) (by omega) (by omega))];exact hhi h1 h2
 have le:∀ {p q:Nat},(p=q∨lxK key idx d[q]! d[p]! = false)→lxK key idx d[q]! d[p]! = false:=by
  rintro p q (rfl|hh)
  ·exact W.irrefl _
  exact hh
 have L1:∀ p,a≤p→p<s→d'[p]! = d[p]!:=fun p _ h2=>by rw[hd];unfold Ag;rw[Zm2 (by omega),Zm2 (by omega)]
 have R1:∀ p,s≤p→p<mid→d'[p]! = d[p+(m-s)]!:=fun p h1 h2=>by rw[hd];unfold Ag;rw[Zm4 (by omega)]
 have L2:∀ p,mid≤p→p<e→d'[p]! = d[p-(e-m)]!:=fun p h1 h2=>by rw[hd];unfold Ag;rw[Zm2 (by omega),Zm4 (by omega)]
 have R2:∀ p,e≤p→d'[p]! = d[p]!:=fun p h1=>by rw[hd];unfold Ag;rw[Zm2 (by omega),Zm2 (by omega)]
 refine⟨⟨fun p q h1 h2 h3=>?_,fun p q h1 h2 h3=>?_,fun p q h1 h2 h3 h4=>?_⟩,⟨fun p q h1 h2 h3=>?_,fun p q h1 h2 h3=>?_,fun p q h1 h2 h3 h4=>?_⟩,Zig _ _ s e a b hs1 he2 hb hperm,fun p q h1 h2 h3 h4=>?_⟩
 ·rw[L1 p h1 (by omega),L1 q (by omega) h3];exact h.left p q h1 h2 (by omega)
 ·rw[R1 p h1 (by omega),R1 q (by omega) h3];exact h.right _ _ (by omega) (by omega) (by omega)
 ·rw[L1 p h1 h2,R1 q h3 h4];exact h.sides _ _ h1 (by omega) (by omega) (by omega)
 ·rw[L2 p h1 (by omega),L2 q (by omega) h3];exact h.left _ _ (by omega) (by omega) (by omega)
 ·rw[R2 p h1,R2 q (by omega)];exact h.right _ _ (by omega) h2 h3
 ·rw[L2 p h1 h2,R2 q h3];exact h.sides _ _ (by omega) (by omega) (by omega) h4
 by_cases hp:p<s
 ·rw[L1 p h1 hp];by_cases hq:q<e
  ·rw[L2 q h3 hq];exact h.left _ _ h1 (by omega) (by omega)
  rw[R2 q (by omega)];have t1:lxK key idx d[s-1]! d[p]! = false:=le (by by_cases hh:p=s-1;exact .inl hh;exact .inr (h.left p (s-1) h1 (by omega) (by omega)));have t2:lxK key idx d[q]! d[e]! = false:=le (by by_cases hh:e=q;exact .inl hh;exact .inr (h.right e q he1 (by omega) h4));exact W.ntrans _ _ _ t2 (W.ntrans _ _ _ (hlo' (by omega) (by omega)) t1)
 rw[R1 p (by omega) h2];by_cases hq:q<e
 ·rw[L2 q h3 hq];have t1:lxK key idx d[e-1]! d[p+(m-s)]! = false:=le (by by_cases hh:p+(m-s)=e-1;exact .inl hh;exact .inr (h.right _ _ (by omega) (by omega) (by omega)));have t2:lxK key idx d[q-(e-m)]! d[s]! = false:=le (by by_cases hh:s=q-(e-m);exact .inl hh;exact .inr (h.left _ _ (by omega) (by omega) (by omega)));have t3:=W.asymmA (hhi' (by omega) (by omega));exact W.ntrans _ _ _ t2 (W.ntrans _ _ _ t3 t1)
 rw[R2 q (by omega)];exact h.right _ _ (by omega) (by omega) h4
theorem Zy1{a mid b:Nat}{d d1 d2 d3:Array α}(hb:b≤d.size)(ha:a≤mid)(hm:mid≤b)(h1:PermIn a b d d1)(hx:∀ p q,a≤p→p<mid→mid≤q→q<b→lxK key idx d1[q]! d1[p]! = false)
 (h2:Merged key idx a mid d1 d2) (h3:Merged key idx mid b d2 d3):Merged key idx a b d d3:=by
 have s1:=h1.1;have s2:=h2.1.1;have s3:=h3.1.1;refine⟨Zkg _ _ _ _ _ h1 (Zkg _ _ _ _ _ (Zig _ _ a mid a b (Yn _) hm (by omega) h2.1) (Zig _ _ mid b a b ha (Yn _) (by omega) h3.1)),fun p q hp hpq hq=>?_⟩;have u1:∀ p,p<mid→d3[p]! = d2[p]!:=fun p hp=>h3.1.2.1 p (.inl hp)
 by_cases hqm:q<mid
 ·rw[u1 p (by omega),u1 q hqm];exact h2.2 p q hp hpq hqm
 by_cases hpm:p<mid
 ·rw[u1 p hpm];refine Zi4 d1 d2 a mid (fun x=>lxK key idx d3[q]! x=false) (by omega) h2.1 (fun k k1 k2=>?_) p hp hpm;refine Zi4 d2 d3 mid b (fun x=>lxK key idx x d1[k]! = false) (by omega) h3.1 (fun l l1 l2=>?_) q (by omega) hq;rw[h2.1.2.1 l (.inr l1)];exact hx k l k1 k2 l1 l2
 exact h3.2 p q (by omega) hpq hq
theorem Fm{a s mid:Nat}{d:Array α}(h:Mg key idx a s mid d)(hs:¬ (a<s∧s<mid))(h1:a≤s)(h2:s≤mid):Merged key idx a mid d d:=by
 by_cases e:s=a
 ·subst e;exact h.done_left
 have:s=mid:=by omega
 subst this;exact h.done_right
end
end
section
open Go.Shelf Go.RowKit Go.Lib Go.Sort
variable {α:Type} [Inhabited α]
theorem Gx:Tryz.prog.follows .mixedOrders=true:=by kernel_rfl
theorem Sn:Tryz.prog.underlying 22=some (.slice 3):=by kernel_rfl
theorem Ry:(Tryz.prog.info? 3).map (fun i=>(i.zero,i.size,i.bytes))=some (some (.int .i64 0),1,8):=by kernel_rfl
omit [Inhabited α]in
theorem Zx2(f:Nat→α)(a b p:Nat):Eu f a b 0 p=f p:=by
 unfold Eu;rw[Zm2 (by omega),Zm2 (by omega)]
theorem Kl(enc:α→Value)(sz blk off cap a b n:Nat)(fv:Value)(d0 d:Array α)(w0 w:World)(R:Row1 enc w0 blk off d0)(hs:d0.size=sz)(hd:d.size=sz)(S:SW enc w0 blk off d w)
 (hab:a+n≤b∨b+n≤a) (ha:a+n≤sz) (hb:b+n≤sz) (hsz:sz<4611686018427387904) :
 Calls Tryz.prog 187 #[.slice (some ⟨blk,off,none⟩) sz cap,.int .i64 a,.int .i64 b,.int .i64 n,fv] w fun e w'=>e=.returned (.tuple #[]) ∧
  ∃ d',SW enc w0 blk off d' w'∧d'.size=sz∧(∀ p,d'[p]! = Eu (fun k=>d[k]!) a b n p)∧∀ lo hi,lo≤a→lo≤b→a+n≤hi→b+n≤hi→hi≤sz→PermIn lo hi d d':=by
 have mixed:=Gx;have hcl0:=R.hO.cells;simp only[Value.cells]at hcl0;have hst:=R.hO.store Tryz.prog;have S0:Aside (SW enc w0 blk off d w):=S;clear S;go_enter Tryz.func187,Tryz.ntmps187;go_wp2_with fail;go_loopg [10] n (fun g1 vi wr=>∃ (i:Nat) (dk:Array α),vi=.int .i64 i∧i≤n∧n-i≤g1∧dk.size=sz∧Aside (SW enc w0 blk off dk wr)∧Aside (∀ p,dk[p]! = Eu (fun k=>d[k]!) a b i p)∧Aside (∀ lo hi,lo≤a→lo≤b→a+n≤hi→b+n≤hi→hi≤sz→PermIn lo hi d dk));case atStart=>exact⟨0,d,rfl,by omega,by omega,hd,S0,(show ∀ p,_=_ from fun p=>(Zx2 (fun k=>d[k]!) a b p).symm),(show ∀ lo hi,_→_→_→_→_→_ from fun lo hi _ _ _ _ _=>Zk6 _ _ _)⟩
 clear S0;obtain⟨i,dk,rfl,hin,hg1,hsk,S1,HF,HP⟩:=hrel;by_cases hlt:i<n
 ·have hltz:(i:Int)<(n:Int):=by omega
  obtain⟨x,hx⟩:∃ x,x=a+i:=⟨_,rfl⟩;obtain⟨y,hy⟩:∃ y,y=b+i:=⟨_,rfl⟩;have rx:IntKind.i64.wrap ((a:Int)+(i:Int))=(x:Int):=by rw[Zks];omega
  have ry:IntKind.i64.wrap ((b:Int)+(i:Int))=(y:Int):=by rw[Zks];omega
  have px:(0:Int)≤(x:Int):=by omega
  have bx:(x:Int)<(sz:Int):=by omega
  have py:(0:Int)≤(y:Int):=by omega
  have by_:(y:Int)<(sz:Int):=by omega
  obtain⟨vx,hvx⟩:∃ v,v=dk[x]!:=⟨_,rfl⟩;obtain⟨vy,hvy⟩:∃ v,v=dk[y]!:=⟨_,rfl⟩;have S3:Aside (SW enc w0 blk off (swp dk x y) ((wr.setCell ⟨blk,off+x,none⟩ (enc vy)).setCell ⟨blk,off+y,none⟩ (enc vx)).drew):=by rw[hvx,hvy];exact S1.out.swapped R x y (by omega) (by omega)
  have ca:=S1.out.c1 R (by omega) x (by omega);have cb:=S1.out.c1 R (by omega) y (by omega);have fa:=S1.out.f1 R (by omega) x (by omega);have fb:=S1.out.f1 R (by omega) y (by omega);obtain⟨u,cc⟩:=S1.out.c2 R (by omega) x y (by omega) (by omega) (enc vy);rw[← hvx]at ca;rw[← hvy]at cb;have HF2:Aside (∀ p,(swp dk x y)[p]! = Eu (fun k=>d[k]!) a b (i+1) p):=by
   rw[hx,hy];exact Zx1 dk HF.out (by omega) (by omega) (by omega)
  have HP2:Aside (∀ lo hi,lo≤a→lo≤b→a+n≤hi→b+n≤hi→hi≤sz→PermIn lo hi d (swp dk x y)) :=
   show ∀ lo hi,_→_→_→_→_→_ from fun lo hi h1 h2 h3 h4 h5=>Zkg _ _ _ _ _ (HP.out lo hi h1 h2 h3 h4 h5) (swp_permIn dk lo hi x y (by omega) (by omega) (by omega) (by omega) (by omega))
  have hsz2:(swp dk x y).size=sz:=by rw[swp_size];exact hsk
  clear S1 HF HP hvx hvy hx hy;go_wp2_with fail;go_big_region_o;clear ca cb cc fa fb;generalize ((wr.setCell ⟨blk,off+x,none⟩ (enc vy)).setCell ⟨blk,off+y,none⟩ (enc vx)).drew=w3 at S3⊢;go_wp2_with fail;go_roundg (n-(i+1));case measure=>omega
  case rel=>exact⟨i+1,swp dk x y,by go_num,by omega,by omega,hsz2,S3,HF2,HP2⟩
 have hltz:¬ (i:Int)<(n:Int):=by omega
 obtain rfl:i=n:=by omega
 go_wp2_with fail;go_end0;exact⟨rfl,dk,S1.out,hsk,HF.out,HP.out⟩
theorem Zxk(enc:α→Value)(sz blk off cap a m b:Nat)(fv:Value)(d0 d:Array α)(w0 w:World)(R:Row1 enc w0 blk off d0)(hs:d0.size=sz)(hd:d.size=sz)(S:SW enc w0 blk off d w)
 (ham:a<m) (hmb:m<b) (hb:b≤sz) (hsz:sz<4611686018427387904) :
 Calls Tryz.prog 169 #[.slice (some ⟨blk,off,none⟩) sz cap,.int .i64 a,.int .i64 m,.int .i64 b,fv] w fun e w'=>e=.returned (.tuple #[]) ∧
  ∃ d',SW enc w0 blk off d' w'∧d'.size=sz∧(∀ p,d'[p]! = Ag (fun k=>d[k]!) a m b p)∧PermIn a b d d':=by
 have S0:Aside (SW enc w0 blk off d w):=S;clear S;obtain⟨i0,hi0,hi0'⟩:∃ x,x+a≤m∧m≤x+a:=⟨m-a,by omega,by omega⟩;obtain⟨j0,hj0,hj0'⟩:∃ x,x+m≤b∧b≤x+m:=⟨b-m,by omega,by omega⟩;have ri0:(m:Int)-(a:Int)=(i0:Int):=by omega
 have rj0:(b:Int)-(m:Int)=(j0:Int):=by omega
 go_enter Tryz.func169,Tryz.ntmps169;go_wp2_with fail;go_loopg [10,11] (i0+j0) (fun g1 vi vj wr=>∃ (i j:Nat) (dk:Array α),vi=.int .i64 i∧vj=.int .i64 j∧0<i∧0<j∧i+a≤m∧m+j≤b∧i+j≤g1∧dk.size=sz∧Aside (SW enc w0 blk off dk wr)∧Aside (∀ p,Ag (fun k=>dk[k]!) (m-i) m (m+j) p=Ag (fun k=>d[k]!) a m b p)∧Aside (PermIn a b d dk));case atStart =>
  refine⟨i0,j0,d,rfl,rfl,by omega,by omega,by omega,by omega,Yn _,hd,S0,?_,Zk6 _ _ _⟩;show ∀ p,_=_;intro p;rw[show m-i0=a by omega,show m+j0=b by omega]
 clear S0 ri0 rj0 hi0 hj0 hi0' hj0';obtain⟨i,j,dk,rfl,rfl,hi,hj,hia,hjb,hg1,hsk,S1,HF,HP⟩:=hrel;obtain⟨x,hx,hx'⟩:∃ x,x+i≤m∧m≤x+i:=⟨m-i,by omega,by omega⟩;have rx:(m:Int)-(i:Int)=(x:Int):=by omega
 by_cases hij:i=j
 ·obtain rfl:i=j:=hij;have hne:((i:Int)!=(i:Int))=false:=by simp
  go_wp2_with fail;refine(Kl enc sz blk off cap x m i _ d0 dk w0 _ R hs hsk S1.out (by omega) (by omega) (by omega) hsz).mono ?_;rintro e w2 ⟨rfl,d2,S2,hs2,hF2,hP2⟩;go_wp2_with fail;go_end0;refine⟨rfl,d2,S2,hs2,fun p=>?_,Zkg _ _ _ _ _ HP.out (hP2 a b (by omega) (by omega) (by omega) (by omega) hb)⟩;rw[hF2,← HF.out p,show x=m-i by omega];exact Zmy (by omega) p
 have hne:((i:Int)!=(j:Int))=true:=by simp;omega
 by_cases hlt:j<i
 ·have hgt:(j:Int)<(i:Int):=by omega
  obtain⟨i2,hi2,hi2'⟩:∃ x,x+j≤i∧i≤x+j:=⟨i-j,by omega,by omega⟩;have ri2:(i:Int)-(j:Int)=(i2:Int):=by omega
  go_wp2_with fail;refine(Kl enc sz blk off cap x m j _ d0 dk w0 _ R hs hsk S1.out (by omega) (by omega) (by omega) hsz).mono ?_;rintro e w2 ⟨rfl,d2,S2,hs2,hF2,hP2⟩;have S2':Aside _:=S2;have HF2:Aside (∀ p,Ag (fun k=>d2[k]!) (m-i2) m (m+j) p=Ag (fun k=>d[k]!) a m b p):=by
   show ∀ p,_=_;intro p;rw[← HF.out p,← Zmx (f:=fun k=>dk[k]!) hlt (by omega) hj p,show i2=i-j by omega];congr 1;funext k;rw[hF2,show x=m-i by omega]
  have HP2:Aside (PermIn a b d d2):=Zkg _ _ _ _ _ HP.out (hP2 a b (by omega) (by omega) (by omega) (by omega) hb);clear S2 hF2 hP2 HF HP S1 rx;go_wp2_with fail;go_roundg (i2+j);case measure=>omega
  case rel=>exact⟨i2,j,d2,rfl,rfl,by omega,hj,by omega,hjb,Yn _,hs2,S2',HF2,HP2⟩
 have hgt:¬ (j:Int)<(i:Int):=by omega
 obtain⟨j2,hj2,hj2'⟩:∃ x,x+i≤j∧j≤x+i:=⟨j-i,by omega,by omega⟩;obtain⟨y,hy,hy'⟩:∃ x,x+i≤m+j∧m+j≤x+i:=⟨m+j-i,by omega,by omega⟩;have rj2:(j:Int)-(i:Int)=(j2:Int):=by omega
 have ry:(m:Int)+(j:Int)-(i:Int)=(y:Int):=by omega
 go_wp2_with fail;refine(Kl enc sz blk off cap x y i _ d0 dk w0 _ R hs hsk S1.out (by omega) (by omega) (by omega) hsz).mono ?_;rintro e w2 ⟨rfl,d2,S2,hs2,hF2,hP2⟩;have S2':Aside _:=S2;have HF2:Aside (∀ p,Ag (fun k=>d2[k]!) (m-i) m (m+j2) p=Ag (fun k=>d[k]!) a m b p):=by
  show ∀ p,_=_;intro p;rw[← HF.out p,← Zmw (f:=fun k=>dk[k]!) (show i<j by omega) (by omega) hi p,show j2=j-i by omega];congr 1;funext k;rw[hF2,show x=m-i by omega,show y=m+j-i by omega]
 have HP2:Aside (PermIn a b d d2):=Zkg _ _ _ _ _ HP.out (hP2 a b (by omega) (by omega) (by omega) (by omega) hb);clear S2 hF2 hP2 HF HP S1 rx ry;go_wp2_with fail;go_roundg (i+j2);case measure=>omega
 case rel=>exact⟨i,j2,d2,rfl,rfl,hi,by omega,hia,by omega,Yn _,hs2,S2',HF2,HP2⟩
end
end Go.Proofs.YtnbclgbicnpmnaaGreat
