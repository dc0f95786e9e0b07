/- Lemmas of this claim: Stab, StabA, StabB, StabC, StabD. Conditions: as named. -/
import Derived.Sort.LotA
import Derived.Deep.LoopGhost
import Derived.Shelf.SlSortCmp.Kit1
import Derived.Sort.WalkA
import Derived.Test.YtnbclgbicnpmnaaGreatA02
namespace Go.Proofs.YtnbclgbicnpmnaaGreat
open Go.RowKit Go.Sort Tryz
set_option maxHeartbeats 0
set_option maxRecDepth 100000
set_option linter.all false
section
open Go.Sort
section
variable {α:Type} [Inhabited α] (key:α→Int) (idx:α→Nat)
def ltK(x y:α):Bool:=decide (key x<key y)
def lxK(x y:α):Bool:=decide (key x<key y∨key x=key y∧idx x<idx y)
omit [Inhabited α]in
theorem Zwk:SWO (lxK key idx) where
 irrefl x:=by simp[lxK]
 trans x y z:=by simp only[lxK,Zgh];omega
 ntrans x y z:=by simp only[lxK,Zg1];omega
variable {key idx}
omit [Inhabited α]in
theorem Zqq{x y:α}(h:idx y<idx x):lxK key idx x y=ltK key x y:=by
 simp only[lxK,ltK,decide_eq_decide];omega
theorem Nt(a:Nat):∀ (j:Nat) (d:Array α),j<d.size→(∀ p,a≤p→p<j→idx d[p]! < idx d[j]!)→insInner (ltK key) a j d=insInner (lxK key idx) a j d
 | 0,d,_,_=>by simp[insInner]
 | j+1,d,hj,h=>by
  unfold insInner;by_cases ha:j+1 > a
  ·rw[Zqq (h j (by omega) (by omega))];split
   ·refine Nt a j _ (by rw[swp_size];omega) fun p hp hpj=>?_
    rw[swp_get d hj (by omega),swp_get d hj (by omega),Zgq (by omega),Zgq (by omega),Zgn rfl];exact h p hp (by omega)
   rfl
  simp[ha]
theorem Ou(a b:Nat):∀ (g i:Nat) (d:Array α),b-i=g→a<i→b≤d.size→(∀ p q,a≤p→p<q→i≤q→q<b→idx d[p]! < idx d[q]!)→insOuter (ltK key) a b i d=insOuter (lxK key idx) a b i d
 | 0,i,d,hg,_,_,_=>by
  have h:¬ i<b:=by omega
  unfold insOuter;rw[Zgq h,Zgq h]
 | g+1,i,d,hg,hi,hb,h=>by
  have hib:i<b:=by omega
  rw[insOuter,Zgn hib,Nt a i d (by omega) (fun p h1 h2=>h p i h1 h2 (Ym _) hib)]
  conv=>rhs;rw[insOuter,Zgn hib]
  have hp:PermIn a (i+1) d (insInner (lxK key idx) a i d):=by
   have:∀ (j:Nat) (e:Array α),j≤i→e.size=d.size→PermIn a (i+1) e (insInner (lxK key idx) a j e):=by
    intro j
    induction j with
    | zero=>intro e _ _;simp[insInner];exact Zee _ _ _
    | succ j ih =>
     intro e hj he;unfold insInner;split
     ·rename_i hc;simp only[Zgc,Zgh]at hc;exact Zf9 _ _ _ _ _ (swp_permIn e a (i+1) (j+1) j (by omega) (by omega) (by omega) (by omega) (by omega)) (ih _ (by omega) (by rw[swp_size];exact he))
     exact Zee _ _ _
   exact this i d (Ym _) rfl
  refine Ou a b g (i+1) _ (by omega) (by omega) (by rw[hp.1];exact hb) fun p q hp1 hpq hq1 hqb=>?_
  rw[hp.2.1 q (by omega)];by_cases hpi:p<i+1
  ·exact Zc3 d _ a (i+1) (fun x=>idx x<idx d[q]!) (by omega) hp (fun k h1 h2=>h k q h1 (by omega) (by omega) hqb) p hp1 hpi
  rw[hp.2.1 p (by omega)];exact h p q hp1 hpq (by omega) hqb
theorem Ns{a b:Nat}{d:Array α}(hb:b≤d.size)(h:∀ p q,a≤p→p<q→q<b→idx d[p]! < idx d[q]!):insertionSort (ltK key) d a b=insertionSort (lxK key idx) d a b :=
 Ou a b _ (a+1) d rfl (by omega) hb fun p q h1 h2 _ h3=>h p q h1 h2 h3
structure Mg(key:α→Int)(idx:α→Nat)(a m b:Nat)(d:Array α):Prop where
 left:SortedIn (lxK key idx) a m d
 right:SortedIn (lxK key idx) m b d
 sides:∀ p q,a≤p→p<m→m≤q→q<b→idx d[p]! < idx d[q]!
def Merged(key:α→Int)(idx:α→Nat)(a b:Nat)(d d':Array α):Prop:=PermIn a b d d'∧SortedIn (lxK key idx) a b d'
theorem Mg.done_left{a b:Nat}{d:Array α}(h:Mg key idx a a b d):Merged key idx a b d d:=⟨Zee _ _ _,h.right⟩
theorem Mg.done_right{a b:Nat}{d:Array α}(h:Mg key idx a b b d):Merged key idx a b d d:=⟨Zee _ _ _,h.left⟩
theorem Qd{a b:Nat}{d:Array α}(h:SortedIn (lxK key idx) a b d){p q:Nat}(hp:a≤p)(hpq:p≤q)(hq:q<b):key d[p]!≤key d[q]!:=by
 by_cases e:p=q
 ·subst e;exact Zfn _
 have:=h p q hp (by omega) hq;simp only[lxK,Zg1]at this;omega
theorem Pj{a b i:Nat}{d d':Array α}(h:Mg key idx a (a+1) b d)(hi:a+1≤i)(hib:i≤b)(hperm:PermIn a b d d')
 (hlo:∀ q,a+1≤q→q<i→ltK key d[q]! d[a]! = true) (hhi:∀ q,i≤q→q<b→ltK key d[q]! d[a]! = false)
 (hd:∀ p,a≤p→p<b→d'[p]! = if p<i-1 then d[p+1]! else if p=i-1 then d[a]! else d[p]!):Merged key idx a b d d':=by
 refine⟨hperm,fun p q hap hpq hqb=>?_⟩;have hs:∀ q,a+1≤q→q<b→lxK key idx d[q]! d[a]! = ltK key d[q]! d[a]!:=fun q h1 h2=>Zqq (h.sides a q (Ym _) (by omega) h1 h2)
 rw[hd p hap (by omega),hd q (by omega) hqb];by_cases hp1:p<i-1
 ·rw[Zgn hp1];by_cases hq1:q<i-1
  ·rw[Zgn hq1];exact h.right (p+1) (q+1) (by omega) (by omega) (by omega)
  rw[Zgq hq1];by_cases hq2:q=i-1
  ·rw[Zgn hq2];have:=hlo (p+1) (by omega) (by omega);rw[← hs _ (by omega) (by omega)]at this;exact(Zwk key idx).asymmA this
  rw[Zgq hq2];exact h.right (p+1) q (by omega) (by omega) hqb
 rw[Zgq hp1,Zgq (show ¬ q<i-1 by omega),Zgq (show ¬ q=i-1 by omega)];by_cases hp2:p=i-1
 ·rw[Zgn hp2,hs q (by omega) hqb];exact hhi q (by omega) hqb
 rw[Zgq hp2];exact h.right p q (by omega) hpq hqb
theorem Nc{a m i:Nat}{d d':Array α}(h:Mg key idx a m (m+1) d)(hi:a≤i)(him:i≤m)(hperm:PermIn a (m+1) d d')
 (hlo:∀ q,a≤q→q<i→ltK key d[m]! d[q]! = false) (hhi:∀ q,i≤q→q<m→ltK key d[m]! d[q]! = true)
 (hd:∀ p,a≤p→p<m+1→d'[p]! = if p=i then d[m]! else if i<p then d[p-1]! else d[p]!):Merged key idx a (m+1) d d':=by
 refine⟨hperm,fun p q hap hpq hqb=>?_⟩;have hs:∀ q,a≤q→q<m→lxK key idx d[m]! d[q]! = ltK key d[m]! d[q]!:=fun q h1 h2=>Zqq (h.sides q m h1 h2 (Ym _) (by omega))
 rw[hd p hap (by omega),hd q (by omega) hqb];by_cases hp1:p=i
 ·rw[Zgn hp1,Zgq (by omega),Zgn (by omega)];have:=hhi (q-1) (by omega) (by omega);rw[← hs _ (by omega) (by omega)]at this;exact(Zwk key idx).asymmA this
 rw[Zgq hp1];by_cases hp2:i<p
 ·rw[Zgn hp2,Zgq (by omega),Zgn (by omega)];exact h.left (p-1) (q-1) (by omega) (by omega) (by omega)
 rw[Zgq hp2];by_cases hq1:q=i
 ·rw[Zgn hq1,hs p hap (by omega)];exact hlo p hap (by omega)
 rw[Zgq hq1];by_cases hq2:i<q
 ·rw[Zgn hq2];exact h.left p (q-1) hap (by omega) (by omega)
 rw[Zgq hq2];exact h.left p q hap hpq (by omega)
def Ay(f:Nat→α)(a b n:Nat)(p:Nat):α:=if a≤p∧p<a+n then f (p-a+b)else if b≤p∧p<b+n then f (p-b+a)else f p
def Mu(f:Nat→α)(a m b:Nat)(p:Nat):α:=if a≤p∧p<a+(b-m)then f (p+(m-a))else if a+(b-m)≤p∧p<b then f (p-(b-m))else f p
omit [Inhabited α]in
theorem Zhf{f:Nat→α}{m i j:Nat}(h1:j<i)(h2:i≤m)(hj:0<j)(p:Nat):Mu (Ay f (m-i) m j) (m-(i-j)) m (m+j) p=Mu f (m-i) m (m+j) p:=by
 unfold Mu Ay;repeat' split
 all_goals first|(exfalso;omega)|rfl|(congr 1;omega)
omit [Inhabited α]in
theorem Zhe{f:Nat→α}{m i j:Nat}(h1:i<j)(h2:i≤m)(hi:0<i)(p:Nat):Mu (Ay f (m-i) (m+j-i) i) (m-i) m (m+(j-i)) p=Mu f (m-i) m (m+j) p:=by
 unfold Mu Ay;repeat' split
 all_goals first|(exfalso;omega)|rfl|(congr 1;omega)
omit [Inhabited α]in
theorem Zhg{f:Nat→α}{m i:Nat}(h2:i≤m)(p:Nat):Ay f (m-i) m i p=Mu f (m-i) m (m+i) p:=by
 unfold Mu Ay;repeat' split
 all_goals first|(exfalso;omega)|rfl|(congr 1;omega)
theorem Ztw(d:Array α){f:Nat→α}{a b n:Nat}(hd:∀ p,d[p]! = Ay f a b n p)(ha:a+n<d.size)(hb:b+n<d.size)(hdis:n<b-a∨n<a-b)(p:Nat) :
 (swp d (a+n) (b+n))[p]! = Ay f a b (n+1) p:=by
 rw[swp_get d ha hb,hd,hd,hd];unfold Ay;repeat' split
 all_goals first|(exfalso;omega)|rfl|(congr 1;omega)
theorem Zxk{a m b mid s e:Nat}{d d':Array α}(h:Mg key idx a m b d)(hb:b≤d.size)(_ham:a≤m)(_hmb:m≤b)(hs1:a≤s)(hs2:s≤m)(he1:m≤e)(he2:e≤b)(hse:s+e=mid+m)
 (_hsm:s≤mid) (_hme:mid≤e)
 (hlo:a<s→e<b→ltK key d[e]! d[s-1]! = false) (hhi:s<m→m<e→ltK key d[e-1]! d[s]! = true)
 (hperm:PermIn s e d d') (hd:∀ p,d'[p]! = Mu (fun k=>d[k]!) s m e p) :
 Mg key idx a s mid d'∧Mg key idx mid e b d'∧PermIn a b d d'∧∀ p q,a≤p→p<mid→mid≤q→q<b→lxK key idx d'[q]! d'[p]! = false:=by
 have W:=Zwk key idx;have hlo':a<s→e<b→lxK key idx d[e]! d[s-1]! = false:=fun h1 h2=>by rw[Zqq (h.sides (s-1) e (by omega) (by omega) (by omega) h2)];exact hlo h1 h2
 have hhi':s<m→m<e→lxK key idx d[e-1]! d[s]! = true:=fun h1 h2=>by rw[Zqq (h.sides s (e-1) (by omega) (by omega) (by omega) (by omega))];exact hhi h1 h2
 have le:∀ {p q:Nat},(p=q∨lxK key idx d[q]! d[p]! = false)→lxK key idx d[q]! d[p]! = false:=by
  rintro p q (rfl|hh)
  ·exact W.irrefl _
  exact hh
 have L1:∀ p,a≤p→p<s→d'[p]! = d[p]!:=fun p _ h2=>by rw[hd];unfold Mu;rw[Zgq (by omega),Zgq (by omega)]
 have R1:∀ p,s≤p→p<mid→d'[p]! = d[p+(m-s)]!:=fun p h1 h2=>by rw[hd];unfold Mu;rw[Zgn (by omega)]
 have L2:∀ p,mid≤p→p<e→d'[p]! = d[p-(e-m)]!:=fun p h1 h2=>by rw[hd];unfold Mu;rw[Zgq (by omega),Zgn (by omega)]
 have R2:∀ p,e≤p→d'[p]! = d[p]!:=fun p h1=>by rw[hd];unfold Mu;rw[Zgq (by omega),Zgq (by omega)]
 refine⟨⟨fun p q h1 h2 h3=>?_,fun p q h1 h2 h3=>?_,fun p q h1 h2 h3 h4=>?_⟩,⟨fun p q h1 h2 h3=>?_,fun p q h1 h2 h3=>?_,fun p q h1 h2 h3 h4=>?_⟩,Zcj _ _ s e a b hs1 he2 hb hperm,fun p q h1 h2 h3 h4=>?_⟩
 ·rw[L1 p h1 (by omega),L1 q (by omega) h3];exact h.left p q h1 h2 (by omega)
 ·rw[R1 p h1 (by omega),R1 q (by omega) h3];exact h.right _ _ (by omega) (by omega) (by omega)
 ·rw[L1 p h1 h2,R1 q h3 h4];exact h.sides _ _ h1 (by omega) (by omega) (by omega)
 ·rw[L2 p h1 (by omega),L2 q (by omega) h3];exact h.left _ _ (by omega) (by omega) (by omega)
 ·rw[R2 p h1,R2 q (by omega)];exact h.right _ _ (by omega) h2 h3
 ·rw[L2 p h1 h2,R2 q h3];exact h.sides _ _ (by omega) (by omega) (by omega) h4
 by_cases hp:p<s
 ·rw[L1 p h1 hp];by_cases hq:q<e
  ·rw[L2 q h3 hq];exact h.left _ _ h1 (by omega) (by omega)
  rw[R2 q (by omega)];have t1:lxK key idx d[s-1]! d[p]! = false:=le (by by_cases hh:p=s-1;exact .inl hh;exact .inr (h.left p (s-1) h1 (by omega) (by omega)));have t2:lxK key idx d[q]! d[e]! = false:=le (by by_cases hh:e=q;exact .inl hh;exact .inr (h.right e q he1 (by omega) h4));exact W.ntrans _ _ _ t2 (W.ntrans _ _ _ (hlo' (by omega) (by omega)) t1)
 rw[R1 p (by omega) h2];by_cases hq:q<e
 ·rw[L2 q h3 hq];have t1:lxK key idx d[e-1]! d[p+(m-s)]! = false:=le (by by_cases hh:p+(m-s)=e-1;exact .inl hh;exact .inr (h.right _ _ (by omega) (by omega) (by omega)));have t2:lxK key idx d[q-(e-m)]! d[s]! = false:=le (by by_cases hh:s=q-(e-m);exact .inl hh;exact .inr (h.left _ _ (by omega) (by omega) (by omega)));have t3:=W.asymmA (hhi' (by omega) (by omega));exact W.ntrans _ _ _ t2 (W.ntrans _ _ _ t3 t1)
 rw[R2 q (by omega)];exact h.right _ _ (by omega) (by omega) h4
theorem Zv9{a mid b:Nat}{d d1 d2 d3:Array α}(hb:b≤d.size)(ha:a≤mid)(hm:mid≤b)(h1:PermIn a b d d1)(hx:∀ p q,a≤p→p<mid→mid≤q→q<b→lxK key idx d1[q]! d1[p]! = false)
 (h2:Merged key idx a mid d1 d2) (h3:Merged key idx mid b d2 d3):Merged key idx a b d d3:=by
 have s1:=h1.1;have s2:=h2.1.1;have s3:=h3.1.1;refine⟨Zf9 _ _ _ _ _ h1 (Zf9 _ _ _ _ _ (Zcj _ _ a mid a b (Ym _) hm (by omega) h2.1) (Zcj _ _ mid b a b ha (Ym _) (by omega) h3.1)),fun p q hp hpq hq=>?_⟩;have u1:∀ p,p<mid→d3[p]! = d2[p]!:=fun p hp=>h3.1.2.1 p (.inl hp)
 by_cases hqm:q<mid
 ·rw[u1 p (by omega),u1 q hqm];exact h2.2 p q hp hpq hqm
 by_cases hpm:p<mid
 ·rw[u1 p hpm];refine Zc3 d1 d2 a mid (fun x=>lxK key idx d3[q]! x=false) (by omega) h2.1 (fun k k1 k2=>?_) p hp hpm;refine Zc3 d2 d3 mid b (fun x=>lxK key idx x d1[k]! = false) (by omega) h3.1 (fun l l1 l2=>?_) q (by omega) hq;rw[h2.1.2.1 l (.inr l1)];exact hx k l k1 k2 l1 l2
 exact h3.2 p q (by omega) hpq hq
theorem Nw{a s mid:Nat}{d:Array α}(h:Mg key idx a s mid d)(hs:¬ (a<s∧s<mid))(h1:a≤s)(h2:s≤mid):Merged key idx a mid d d:=by
 by_cases e:s=a
 ·subst e;exact h.done_left
 have:s=mid:=by omega
 subst this;exact h.done_right
end
end
section
open Go.Shelf Go.RowKit Go.Lib Go.Sort
variable {α:Type} [Inhabited α]
theorem Bk:prog.follows .mixedOrders=true:=by kernel_rfl
theorem Zop:prog.underlying 22=some (.slice 3):=by kernel_rfl
theorem Zr0:(prog.info? 3).map (fun i=>(i.zero,i.size,i.bytes))=some (some (.int .i64 0),1,8):=by kernel_rfl
omit [Inhabited α]in
theorem Ztv(f:Nat→α)(a b p:Nat):Ay f a b 0 p=f p:=by
 unfold Ay;rw[Zgq (by omega),Zgq (by omega)]
theorem Uc(enc:α→Value)(sz blk off cap a b n:Nat)(fv:Value)(d0 d:Array α)(w0 w:World)(R:Row1 enc w0 blk off d0)(hs:d0.size=sz)(hd:d.size=sz)(S:SW enc w0 blk off d w)
 (hab:a+n≤b∨b+n≤a) (ha:a+n≤sz) (hb:b+n≤sz) (hsz:sz<4611686018427387904) :
 Calls prog 187 #[.slice (some ⟨blk,off,none⟩) sz cap,.int .i64 a,.int .i64 b,.int .i64 n,fv] w fun e w'=>e=.returned (.tuple #[]) ∧
  ∃ d',SW enc w0 blk off d' w'∧d'.size=sz∧(∀ p,d'[p]! = Ay (fun k=>d[k]!) a b n p)∧∀ lo hi,lo≤a→lo≤b→a+n≤hi→b+n≤hi→hi≤sz→PermIn lo hi d d':=by
 have mixed:=Bk;have hcl0:=R.hO.cells;simp only[Value.cells]at hcl0;have hst:=R.hO.store prog;have S0:Aside (SW enc w0 blk off d w):=S;clear S;go_enter func187,ntmps187;go_wp2_with fail;go_loopg [10] n (fun g1 vi wr=>∃ (i:Nat) (dk:Array α),vi=.int .i64 i∧i≤n∧n-i≤g1∧dk.size=sz∧Aside (SW enc w0 blk off dk wr)∧Aside (∀ p,dk[p]! = Ay (fun k=>d[k]!) a b i p)∧Aside (∀ lo hi,lo≤a→lo≤b→a+n≤hi→b+n≤hi→hi≤sz→PermIn lo hi d dk));case atStart=>exact⟨0,d,rfl,by omega,by omega,hd,S0,(show ∀ p,_=_ from fun p=>(Ztv (fun k=>d[k]!) a b p).symm),(show ∀ lo hi,_→_→_→_→_→_ from fun lo hi _ _ _ _ _=>Zee _ _ _)⟩
 clear S0;obtain⟨i,dk,rfl,hin,hg1,hsk,S1,HF,HP⟩:=hrel;by_cases hlt:i<n
 ·have hltz:(i:Int)<(n:Int):=by omega
  obtain⟨x,hx⟩:∃ x,x=a+i:=⟨_,rfl⟩;obtain⟨y,hy⟩:∃ y,y=b+i:=⟨_,rfl⟩;have rx:IntKind.i64.wrap ((a:Int)+(i:Int))=(x:Int):=by rw[Zfb];omega
  have ry:IntKind.i64.wrap ((b:Int)+(i:Int))=(y:Int):=by rw[Zfb];omega
  have px:(0:Int)≤(x:Int):=by omega
  have bx:(x:Int)<(sz:Int):=by omega
  have py:(0:Int)≤(y:Int):=by omega
  have by_:(y:Int)<(sz:Int):=by omega
  obtain⟨vx,hvx⟩:∃ v,v=dk[x]!:=⟨_,rfl⟩;obtain⟨vy,hvy⟩:∃ v,v=dk[y]!:=⟨_,rfl⟩;have S3:Aside (SW enc w0 blk off (swp dk x y) ((wr.setCell ⟨blk,off+x,none⟩ (enc vy)).setCell ⟨blk,off+y,none⟩ (enc vx)).drew):=by rw[hvx,hvy];exact S1.out.swapped R x y (by omega) (by omega)
  have ca:=S1.out.c1 R (by omega) x (by omega);have cb:=S1.out.c1 R (by omega) y (by omega);have fa:=S1.out.f1 R (by omega) x (by omega);have fb:=S1.out.f1 R (by omega) y (by omega);obtain⟨u,cc⟩:=S1.out.c2 R (by omega) x y (by omega) (by omega) (enc vy);rw[← hvx]at ca;rw[← hvy]at cb;have HF2:Aside (∀ p,(swp dk x y)[p]! = Ay (fun k=>d[k]!) a b (i+1) p):=by
   rw[hx,hy];exact Ztw dk HF.out (by omega) (by omega) (by omega)
  have HP2:Aside (∀ lo hi,lo≤a→lo≤b→a+n≤hi→b+n≤hi→hi≤sz→PermIn lo hi d (swp dk x y)) :=
   show ∀ lo hi,_→_→_→_→_→_ from fun lo hi h1 h2 h3 h4 h5=>Zf9 _ _ _ _ _ (HP.out lo hi h1 h2 h3 h4 h5) (swp_permIn dk lo hi x y (by omega) (by omega) (by omega) (by omega) (by omega))
  have hsz2:(swp dk x y).size=sz:=by rw[swp_size];exact hsk
  clear S1 HF HP hvx hvy hx hy;go_wp2_with fail;go_big_region_o;clear ca cb cc fa fb;generalize ((wr.setCell ⟨blk,off+x,none⟩ (enc vy)).setCell ⟨blk,off+y,none⟩ (enc vx)).drew=w3 at S3⊢;go_wp2_with fail;go_roundg (n-(i+1));case measure=>omega
  case rel=>exact⟨i+1,swp dk x y,by go_num,by omega,by omega,hsz2,S3,HF2,HP2⟩
 have hltz:¬ (i:Int)<(n:Int):=by omega
 obtain rfl:i=n:=by omega
 go_wp2_with fail;go_end0;exact⟨rfl,dk,S1.out,hsk,HF.out,HP.out⟩
theorem Zu1(enc:α→Value)(sz blk off cap a m b:Nat)(fv:Value)(d0 d:Array α)(w0 w:World)(R:Row1 enc w0 blk off d0)(hs:d0.size=sz)(hd:d.size=sz)(S:SW enc w0 blk off d w)
 (ham:a<m) (hmb:m<b) (hb:b≤sz) (hsz:sz<4611686018427387904) :
 Calls prog 169 #[.slice (some ⟨blk,off,none⟩) sz cap,.int .i64 a,.int .i64 m,.int .i64 b,fv] w fun e w'=>e=.returned (.tuple #[]) ∧
  ∃ d',SW enc w0 blk off d' w'∧d'.size=sz∧(∀ p,d'[p]! = Mu (fun k=>d[k]!) a m b p)∧PermIn a b d d':=by
 have S0:Aside (SW enc w0 blk off d w):=S;clear S;obtain⟨i0,hi0,hi0'⟩:∃ x,x+a≤m∧m≤x+a:=⟨m-a,by omega,by omega⟩;obtain⟨j0,hj0,hj0'⟩:∃ x,x+m≤b∧b≤x+m:=⟨b-m,by omega,by omega⟩;have ri0:(m:Int)-(a:Int)=(i0:Int):=by omega
 have rj0:(b:Int)-(m:Int)=(j0:Int):=by omega
 go_enter func169,ntmps169;go_wp2_with fail;go_loopg [10,11] (i0+j0) (fun g1 vi vj wr=>∃ (i j:Nat) (dk:Array α),vi=.int .i64 i∧vj=.int .i64 j∧0<i∧0<j∧i+a≤m∧m+j≤b∧i+j≤g1∧dk.size=sz∧Aside (SW enc w0 blk off dk wr)∧Aside (∀ p,Mu (fun k=>dk[k]!) (m-i) m (m+j) p=Mu (fun k=>d[k]!) a m b p)∧Aside (PermIn a b d dk));case atStart =>
  refine⟨i0,j0,d,rfl,rfl,by omega,by omega,by omega,by omega,Ym _,hd,S0,?_,Zee _ _ _⟩;show ∀ p,_=_;intro p;rw[show m-i0=a by omega,show m+j0=b by omega]
 clear S0 ri0 rj0 hi0 hj0 hi0' hj0';obtain⟨i,j,dk,rfl,rfl,hi,hj,hia,hjb,hg1,hsk,S1,HF,HP⟩:=hrel;obtain⟨x,hx,hx'⟩:∃ x,x+i≤m∧m≤x+i:=⟨m-i,by omega,by omega⟩;have rx:(m:Int)-(i:Int)=(x:Int):=by omega
 by_cases hij:i=j
 ·obtain rfl:i=j:=hij;have hne:((i:Int)!=(i:Int))=false:=by simp
  go_wp2_with fail;refine(Uc enc sz blk off cap x m i _ d0 dk w0 _ R hs hsk S1.out (by omega) (by omega) (by omega) hsz).mono ?_;rintro e w2 ⟨rfl,d2,S2,hs2,hF2,hP2⟩;go_wp2_with fail;go_end0;refine⟨rfl,d2,S2,hs2,fun p=>?_,Zf9 _ _ _ _ _ HP.out (hP2 a b (by omega) (by omega) (by omega) (by omega) hb)⟩;rw[hF2,← HF.out p,show x=m-i by omega];exact Zhg (by omega) p
 have hne:((i:Int)!=(j:Int))=true:=by simp;omega
 by_cases hlt:j<i
 ·have hgt:(j:Int)<(i:Int):=by omega
  obtain⟨i2,hi2,hi2'⟩:∃ x,x+j≤i∧i≤x+j:=⟨i-j,by omega,by omega⟩;have ri2:(i:Int)-(j:Int)=(i2:Int):=by omega
  go_wp2_with fail;refine(Uc enc sz blk off cap x m j _ d0 dk w0 _ R hs hsk S1.out (by omega) (by omega) (by omega) hsz).mono ?_;rintro e w2 ⟨rfl,d2,S2,hs2,hF2,hP2⟩;have S2':Aside _:=S2;have HF2:Aside (∀ p,Mu (fun k=>d2[k]!) (m-i2) m (m+j) p=Mu (fun k=>d[k]!) a m b p):=by
   show ∀ p,_=_;intro p;rw[← HF.out p,← Zhf (f:=fun k=>dk[k]!) hlt (by omega) hj p,show i2=i-j by omega];congr 1;funext k;rw[hF2,show x=m-i by omega]
  have HP2:Aside (PermIn a b d d2):=Zf9 _ _ _ _ _ HP.out (hP2 a b (by omega) (by omega) (by omega) (by omega) hb);clear S2 hF2 hP2 HF HP S1 rx;go_wp2_with fail;go_roundg (i2+j);case measure=>omega
  case rel=>exact⟨i2,j,d2,rfl,rfl,by omega,hj,by omega,hjb,Ym _,hs2,S2',HF2,HP2⟩
 have hgt:¬ (j:Int)<(i:Int):=by omega
 obtain⟨j2,hj2,hj2'⟩:∃ x,x+i≤j∧j≤x+i:=⟨j-i,by omega,by omega⟩;obtain⟨y,hy,hy'⟩:∃ x,x+i≤m+j∧m+j≤x+i:=⟨m+j-i,by omega,by omega⟩;have rj2:(j:Int)-(i:Int)=(j2:Int):=by omega
 have ry:(m:Int)+(j:Int)-(i:Int)=(y:Int):=by omega
 go_wp2_with fail;refine(Uc enc sz blk off cap x y i _ d0 dk w0 _ R hs hsk S1.out (by omega) (by omega) (by omega) hsz).mono ?_;rintro e w2 ⟨rfl,d2,S2,hs2,hF2,hP2⟩;have S2':Aside _:=S2;have HF2:Aside (∀ p,Mu (fun k=>d2[k]!) (m-i) m (m+j2) p=Mu (fun k=>d[k]!) a m b p):=by
  show ∀ p,_=_;intro p;rw[← HF.out p,← Zhe (f:=fun k=>dk[k]!) (show i<j by omega) (by omega) hi p,show j2=j-i by omega];congr 1;funext k;rw[hF2,show x=m-i by omega,show y=m+j-i by omega]
 have HP2:Aside (PermIn a b d d2):=Zf9 _ _ _ _ _ HP.out (hP2 a b (by omega) (by omega) (by omega) (by omega) hb);clear S2 hF2 hP2 HF HP S1 rx ry;go_wp2_with fail;go_roundg (i+j2);case measure=>omega
 case rel=>exact⟨i,j2,d2,rfl,rfl,hi,by omega,hia,by omega,Ym _,hs2,S2',HF2,HP2⟩
end
section
open Go.Shelf Go.RowKit Go.Lib Go.Sort
variable {α:Type} [Inhabited α]
def cfK(key:α→Int)(x y:α):Int:=if key x<key y then -1 else if key y<key x then 1 else 0
omit [Inhabited α]in
theorem Lf{key:α→Int}{x y:α}(h:ltK key x y=true):cfK key x y<0:=by
 simp only[ltK,Zgh]at h;simp[cfK,h]
omit [Inhabited α]in
theorem Ea{key:α→Int}{x y:α}(h:ltK key x y=false):¬ cfK key x y<0:=by
 simp only[ltK,Zg1]at h;unfold cfK;rw[Zgq h];split<;>omega
theorem Sn(args:Array Value)(w:World):(callFunc 67 args).run prog w=.ok (.enter 67 args) w:=by kernel_rfl
theorem Dq(enc:α→Value)(key:α→Int)(sz blk off cap a b:Nat)(cb:Array Value)(d0 d:Array α)(w0 w:World)(hcmp:CmpLays1 prog 67 cb enc (cfK key) blk off sz w0)(R:Row1 enc w0 blk off d0)(hs:d0.size=sz)(hd:d.size=sz)(S:SW enc w0 blk off d w)
 (hab:a≤b) (hb:b≤sz) (hsz:sz<4611686018427387904) :
 Calls prog 135 #[.slice (some ⟨blk,off,none⟩) sz cap,.int .i64 a,.int .i64 b,.func (.func 67) #[] cb] w fun e w'=>e=.returned (.tuple #[])∧SW enc w0 blk off (insertionSort (ltK key) d a b) w':=by
 have mixed:=Bk;have eg:=Sn;have hcl0:=R.hO.cells;simp only[Value.cells]at hcl0;have hst:=R.hO.store prog;have HC:Aside _:=hcmp;have S0:Aside (SW enc w0 blk off d w):=S;clear S;clear hcmp;go_enter func135,ntmps135;go_wp2;go_loopg [8] (b-a) (fun g1 vi wr=>∃ (i:Nat) (dk:Array α),vi=.int .i64 i∧a<i∧i≤b+1∧b+1-i≤g1+1∧dk.size=sz∧Aside (SW enc w0 blk off dk wr)∧Hid (insOuter (ltK key) a b i dk=insOuter (ltK key) a b (a+1) d));case atStart=>exact⟨a+1,d,by go_num,by omega,by omega,by omega,hd,S0,rfl⟩
 clear S0;obtain⟨i,dk,rfl,hai,hib,hg1,hsk,S1,HO⟩:=hrel;by_cases hlt:i<b
 ·have hltz:(i:Int)<(b:Int):=by omega
  go_wp2;go_loopg [9] i (fun g2 vj wr2=>∃ (j:Nat) (dj:Array α),vj=.int .i64 j∧a≤j∧j≤i∧j≤g2∧dj.size=sz∧Aside (SW enc w0 blk off dj wr2)∧Hid (insInner (ltK key) a j dj=insInner (ltK key) a i dk));case atStart=>exact⟨i,dk,rfl,by omega,Ym _,Ym _,hsk,S1,rfl⟩
  clear S1;obtain⟨j,dj,rfl,haj,hji,hg2,hsj,SJ,HI⟩:=hrel;have out:(j≤a∨(ltK key) dj[j]! dj[j-1]! = false)→Hid (insOuter (ltK key) a b (i+1) dj=insOuter (ltK key) a b (a+1) d):=fun hs=>by
   show _=_;rw[← HO.out,insOuter_go _ _ _ _ _ hlt,← HI.out,insInner_stop _ _ _ _ hs]
  have OUT:Aside _:=out;clear out;by_cases hja:a<j
  ·have hjaz:(a:Int)<(j:Int):=by omega
   obtain⟨jp,hjp⟩:∃ q,q+1=j:=⟨j-1,by omega⟩;have zjp:(j:Int)=(jp:Int)+1:=by omega
   have hjad:decide ((jp:Int)+1 > (a:Int))=true:=Ye;have hjaz':(a:Int)<(jp:Int)+1:=by omega
   cases hlv:(ltK key) dj[j]! dj[j-1]! with
   | true =>
    obtain⟨iN1193,hiN1193⟩:∃ q,q=j:=⟨_,rfl⟩;obtain⟨jN1193,hjN1193⟩:∃ q,q=j-1:=⟨_,rfl⟩;have ea1193:((jp:Int)+1).toNat=iN1193:=by omega
    have pa1193:(0:Int)≤(jp:Int)+1:=by omega
    have ba1193:(jp:Int)+1<(sz:Int):=by omega
    have ra1193:IntKind.i64.wrap ((jp:Int)+1)=(jp:Int)+1:=by rw[Zfb];omega
    have ec1193:((jp:Int)).toNat=jN1193:=by omega
    have pc1193:(0:Int)≤(jp:Int):=by omega
    have bc1193:(jp:Int)<(sz:Int):=by omega
    have rc1193:IntKind.i64.wrap ((jp:Int))=(jp:Int):=by rw[Zfb];omega
    obtain⟨x1193,hx1193⟩:∃ x,x=dj[j]!:=⟨_,rfl⟩;obtain⟨y1193,hy1193⟩:∃ x,x=dj[j-1]!:=⟨_,rfl⟩;have l1193a:=SJ.out.cl R (by omega) (j) (by omega);have l1193b:=SJ.out.cl R (by omega) (j-1) (by omega);rw[← hx1193,← hiN1193]at l1193a;rw[← hy1193,← hjN1193]at l1193b;have hc1193:=SJ.out.cmp HC.out (by omega) x1193 y1193;have hv1193:cfK key x1193 y1193<0:=by rw[hx1193,hy1193];exact Lf hlv
    have hd1193:decide (cfK key x1193 y1193<0)=true:=Ye hv1193;clear hx1193 hy1193 hiN1193 hjN1193;go_wp2_with fail;go_quiet_grown (first|(go_at_fn 67;refine Calls.grown_of (hc1193 _ _)));have S2:Aside (SW enc w0 blk off dj (grow (wr.drewN nq) osq)):=SJ.out.grown nq osq;clear l1193a l1193b hc1193 SJ;generalize grow (wr.drewN nq) osq=w2 at S2⊢;clear nq osq;clear ea1193 ec1193;go_wp2_with fail;obtain⟨iN1194,hiN1194⟩:∃ q,q=j:=⟨_,rfl⟩;obtain⟨jN1194,hjN1194⟩:∃ q,q=j-1:=⟨_,rfl⟩;have ea1194:((jp:Int)+1).toNat=iN1194:=by omega
    have pa1194:(0:Int)≤(jp:Int)+1:=by omega
    have ba1194:(jp:Int)+1<(sz:Int):=by omega
    have ra1194:IntKind.i64.wrap ((jp:Int)+1)=(jp:Int)+1:=by rw[Zfb];omega
    have ec1194:((jp:Int)).toNat=jN1194:=by omega
    have pc1194:(0:Int)≤(jp:Int):=by omega
    have bc1194:(jp:Int)<(sz:Int):=by omega
    have rc1194:IntKind.i64.wrap ((jp:Int))=(jp:Int):=by rw[Zfb];omega
    obtain⟨x1194,hx1194⟩:∃ x,x=dj[j]!:=⟨_,rfl⟩;obtain⟨y1194,hy1194⟩:∃ x,x=dj[j-1]!:=⟨_,rfl⟩;have S3:Aside (SW enc w0 blk off (swp dj (j) (j-1)) ((w2.setCell ⟨blk,off+iN1194,none⟩ (enc y1194)).setCell ⟨blk,off+jN1194,none⟩ (enc x1194)).drew):=by rw[hiN1194,hjN1194,hx1194,hy1194];exact S2.out.swapped R (j) (j-1) (by omega) (by omega)
    have c1194a:=S2.out.c1 R (by omega) (j) (by omega);have c1194b:=S2.out.c1 R (by omega) (j-1) (by omega);have f1194a:=S2.out.f1 R (by omega) (j) (by omega);have f1194b:=S2.out.f1 R (by omega) (j-1) (by omega);obtain⟨u1194,c1194c⟩:=S2.out.c2 R (by omega) (j) (j-1) (by omega) (by omega) (enc y1194);rw[← hjN1194,← hiN1194]at c1194c;rw[← hx1194,← hiN1194]at c1194a;rw[← hy1194,← hjN1194]at c1194b;rw[← hiN1194]at f1194a;rw[← hjN1194]at f1194b;clear S2 hx1194 hy1194 hiN1194 hjN1194;go_wp2_with fail;go_big_region_o;clear c1194a c1194b c1194c f1194a f1194b;generalize ((w2.setCell ⟨blk,off+iN1194,none⟩ (enc y1194)).setCell ⟨blk,off+jN1194,none⟩ (enc x1194)).drew=w3 at S3⊢;clear ea1194 ec1194;go_wp2;go_roundg (j-1);case measure=>omega
    case rel=>exact⟨j-1,swp dj j (j-1),by first|rfl|go_num|(congr 1;omega),by omega,by omega,Ym _,by rw[size_swp];exact hsj,S3,(show Hid _ from by rw[← HI.out,insInner_go (ltK key) a j dj hja hlv];exact rfl)⟩
   | false =>
    obtain⟨iN1195,hiN1195⟩:∃ q,q=j:=⟨_,rfl⟩;obtain⟨jN1195,hjN1195⟩:∃ q,q=j-1:=⟨_,rfl⟩;have ea1195:((jp:Int)+1).toNat=iN1195:=by omega
    have pa1195:(0:Int)≤(jp:Int)+1:=by omega
    have ba1195:(jp:Int)+1<(sz:Int):=by omega
    have ra1195:IntKind.i64.wrap ((jp:Int)+1)=(jp:Int)+1:=by rw[Zfb];omega
    have ec1195:((jp:Int)).toNat=jN1195:=by omega
    have pc1195:(0:Int)≤(jp:Int):=by omega
    have bc1195:(jp:Int)<(sz:Int):=by omega
    have rc1195:IntKind.i64.wrap ((jp:Int))=(jp:Int):=by rw[Zfb];omega
    obtain⟨x1195,hx1195⟩:∃ x,x=dj[j]!:=⟨_,rfl⟩;obtain⟨y1195,hy1195⟩:∃ x,x=dj[j-1]!:=⟨_,rfl⟩;have l1195a:=SJ.out.cl R (by omega) (j) (by omega);have l1195b:=SJ.out.cl R (by omega) (j-1) (by omega);rw[← hx1195,← hiN1195]at l1195a;rw[← hy1195,← hjN1195]at l1195b;have hc1195:=SJ.out.cmp HC.out (by omega) x1195 y1195;have hv1195:¬ cfK key x1195 y1195<0:=by rw[hx1195,hy1195];exact Ea hlv
    have hd1195:decide (cfK key x1195 y1195<0)=false:=Yf hv1195;clear hx1195 hy1195 hiN1195 hjN1195;go_wp2_with fail;go_quiet_grown (first|(go_at_fn 67;refine Calls.grown_of (hc1195 _ _)));have S2:Aside (SW enc w0 blk off dj (grow (wr.drewN nq) osq)):=SJ.out.grown nq osq;clear l1195a l1195b hc1195 SJ;generalize grow (wr.drewN nq) osq=w2 at S2⊢;clear nq osq;clear ea1195 ec1195;go_wp2;go_roundg (b-(i+1));case measure=>omega
    case rel=>exact⟨i+1,dj,by go_num,by omega,by omega,by omega,hsj,S2,OUT.out (Or.inr hlv)⟩
  -- j=a: out of the inner loop (the guard is false: 'cmp' is not called)
  have hjaz:decide ((j:Int) > (a:Int))=false:=Yf;have hjaz':¬ (a:Int)<(j:Int):=by omega
  go_wp2_with fail;go_big_region_o;have S2:Aside (SW enc w0 blk off dj wr.drew):=SJ.out.drew;clear SJ;generalize wr.drew=w2 at S2⊢;go_wp2;go_roundg (b-(i+1));case measure=>omega
  case rel=>exact⟨i+1,dj,by go_num,by omega,by omega,by omega,hsj,S2,OUT.out (Or.inl (by omega))⟩
 -- the outer loop is at its end
 have hltz:¬ (i:Int)<(b:Int):=by omega
 go_wp2;go_end0;exact⟨rfl,by unfold Sort.insertionSort;rw[← HO.out,insOuter_stop _ _ _ _ _ hlt];exact S1.out⟩
end
section
open Go.Shelf Go.RowKit Go.Lib Go.Sort
variable {α:Type} [Inhabited α]
def Gw(enc:α→Value)(key:α→Int)(idx:α→Nat)(w0:World)(sz blk off a b:Nat)(d:Array α)(e:Ending)(w':World):Prop :=
 e=.returned (.tuple #[])∧∃ d',SW enc w0 blk off d' w'∧d'.size=sz∧Merged key idx a b d d'
theorem Pk(enc:α→Value)(key:α→Int)(idx:α→Nat)(sz blk off cap a b:Nat)(cb:Array Value)(d0 d:Array α)(w0 w:World)(hcmp:CmpLays1 prog 67 cb enc (cfK key) blk off sz w0)(R:Row1 enc w0 blk off d0)(hs:d0.size=sz)(hd:d.size=sz)(S:SW enc w0 blk off d w)
 (hab:a+1≤b) (hb:b≤sz) (hsz:sz<4611686018427387904) (hm:Mg key idx a (a+1) b d) :
 Calls prog 136 #[.slice (some ⟨blk,off,none⟩) sz cap,.int .i64 a,.int .i64 ((a+1:Nat):Int),.int .i64 b,.func (.func 67) #[] cb] w (Gw enc key idx w0 sz blk off a b d):=by
 have mixed:=Bk;have eg:=Sn;have hcl0:=R.hO.cells;simp only[Value.cells]at hcl0;have hst:=R.hO.store prog;have HC:Aside _:=hcmp;have HM:Aside _:=hm;have S0:Aside (SW enc w0 blk off d w):=S;clear S hcmp hm;have q1:((a:Int)+1-(a:Int)==1)=true:=by simp;omega
 go_enter func136,ntmps136;go_wp2_with fail;go_loopg [10,11] (b-(a+1)) (fun g1 vi vj wr=>∃ (i j:Nat),vi=.int .i64 i∧vj=.int .i64 j∧a+1≤i∧i≤j∧j≤b∧j-i≤g1∧Aside (SW enc w0 blk off d wr)∧Aside (∀ q,a+1≤q→q<i→ltK key d[q]! d[a]! = true)∧Aside (∀ q,j≤q→q<b→ltK key d[q]! d[a]! = false));case atStart=>exact⟨a+1,b,rfl,rfl,by omega,by omega,by omega,by omega,S0,(show ∀ q,_→_→_ from fun q h1 h2=>by omega),(show ∀ q,_→_→_ from fun q h1 h2=>by omega)⟩
 clear S0;obtain⟨i,j,rfl,rfl,hai,hij,hjb,hg1,S1,HL,HH⟩:=hrel;by_cases hlt:i<j
 ·have hltz:(i:Int)<(j:Int):=by omega
  obtain⟨c,hc1,hc2⟩:∃ c,i+j≤2*c+1∧2*c≤i+j:=⟨(i+j)/2,by omega,by omega⟩;have rc:((i:Int)+(j:Int))/2=(c:Int):=by omega
  have pc:(0:Int)≤(c:Int):=by omega
  have bc:(c:Int)<(sz:Int):=by omega
  have pa:(0:Int)≤(a:Int):=by omega
  have ba:(a:Int)<(sz:Int):=by omega
  obtain⟨x,hx⟩:∃ x,x=d[c]!:=⟨_,rfl⟩;obtain⟨y,hy⟩:∃ x,x=d[a]!:=⟨_,rfl⟩;have la:=S1.out.cl R (by omega) c (by omega);have lb:=S1.out.cl R (by omega) a (by omega);rw[← hx]at la;rw[← hy]at lb;have hcm:=S1.out.cmp HC.out (by omega) x y;cases hlv:ltK key x y with
  | true =>
   have hv:cfK key x y<0:=Lf hlv;have hdv:decide (cfK key x y<0)=true:=Ye hv;have HL2:Aside (∀ q,a+1≤q→q<c+1→ltK key d[q]! d[a]! = true):=by
    show ∀ q,_→_→_;intro q h1 h2;have k1:=Qd HM.out.right h1 (show q≤c by omega) (by omega);rw[hx,hy]at hlv;simp only[ltK,Zgh]at hlv⊢;omega
   clear hx hy HL hlv;go_wp2_with fail;go_quiet_grown (first|(go_at_fn 67;refine Calls.grown_of (hcm _ _)));have S2:Aside (SW enc w0 blk off d (grow (wr.drewN nq) osq)):=S1.out.grown nq osq;clear la lb hcm S1;generalize grow (wr.drewN nq) osq=w2 at S2⊢;clear nq osq;go_wp2_with fail;go_roundg (j-(c+1));case measure=>omega
   case rel=>exact⟨c+1,j,by go_num,rfl,by omega,by omega,hjb,Ym _,S2,HL2,HH⟩
  | false =>
   have hv:¬ cfK key x y<0:=Ea hlv;have hdv:decide (cfK key x y<0)=false:=Yf hv;have HH2:Aside (∀ q,c≤q→q<b→ltK key d[q]! d[a]! = false):=by
    show ∀ q,_→_→_;intro q h1 h2;have k1:=Qd HM.out.right (show a+1≤c by omega) h1 h2;rw[hx,hy]at hlv;simp only[ltK,Zg1]at hlv⊢;omega
   clear hx hy HH hlv;go_wp2_with fail;go_quiet_grown (first|(go_at_fn 67;refine Calls.grown_of (hcm _ _)));have S2:Aside (SW enc w0 blk off d (grow (wr.drewN nq) osq)):=S1.out.grown nq osq;clear la lb hcm S1;generalize grow (wr.drewN nq) osq=w2 at S2⊢;clear nq osq;go_wp2_with fail;go_roundg (c-i);case measure=>omega
   case rel=>exact⟨i,c,rfl,rfl,hai,by omega,by omega,Ym _,S2,HL,HH2⟩
 have hltz:¬ (i:Int)<(j:Int):=by omega
 obtain rfl:i=j:=by omega
 obtain⟨t,ht,ht'⟩:∃ t,t+1≤i∧i≤t+1:=⟨i-1,by omega,by omega⟩;have rt:(i:Int)-1=(t:Int):=by omega
 go_wp2_with fail;go_loopg [13] (t-a) (fun g1 vk wr2=>∃ (k:Nat) (dk:Array α),vk=.int .i64 k∧a≤k∧k≤t∧t-k≤g1∧dk.size=sz∧Aside (SW enc w0 blk off dk wr2)∧Aside (PermIn a b d dk)∧Aside (∀ p,a≤p→p<b→dk[p]! = if p<k then d[p+1]! else if p=k then d[a]! else d[p]!));case atStart=>exact⟨a,d,rfl,Ym _,by omega,by omega,hd,S1,Zee _ _ _,(show ∀ p,_→_→_ from fun p h1 h2=>by rw[Zgq (by omega)];split<;>first|rfl|(congr 1))⟩
 clear S1;obtain⟨k,dk,rfl,hak,hkt,hg2,hsk,SK,HP,HF⟩:=hrel;by_cases hkl:k<t
 ·have hkz:(k:Int)<(t:Int):=by omega
  have ea:((k:Int)+1).toNat=k+1:=by omega
  have pk:(0:Int)≤(k:Int):=by omega
  have bk:(k:Int)<(sz:Int):=by omega
  have pk1:(0:Int)≤(k:Int)+1:=by omega
  have bk1:(k:Int)+1<(sz:Int):=by omega
  obtain⟨vx,hvx⟩:∃ v,v=dk[k]!:=⟨_,rfl⟩;obtain⟨vy,hvy⟩:∃ v,v=dk[k+1]!:=⟨_,rfl⟩;have S3:Aside (SW enc w0 blk off (swp dk k (k+1)) ((wr.setCell ⟨blk,off+k,none⟩ (enc vy)).setCell ⟨blk,off+(k+1),none⟩ (enc vx)).drew):=by rw[hvx,hvy];exact SK.out.swapped R k (k+1) (by omega) (by omega)
  have ca:=SK.out.c1 R (by omega) k (by omega);have cb2:=SK.out.c1 R (by omega) (k+1) (by omega);have fa:=SK.out.f1 R (by omega) k (by omega);have fb:=SK.out.f1 R (by omega) (k+1) (by omega);obtain⟨u,cc⟩:=SK.out.c2 R (by omega) k (k+1) (by omega) (by omega) (enc vy);rw[← hvx]at ca;rw[← hvy]at cb2;have HP2:Aside (PermIn a b d (swp dk k (k+1))):=Zf9 _ _ _ _ _ HP.out (swp_permIn dk a b k (k+1) (by omega) (by omega) (by omega) (by omega) (by omega));have HF2:Aside (∀ p,a≤p→p<b→(swp dk k (k+1))[p]! = if p<k+1 then d[p+1]! else if p=k+1 then d[a]! else d[p]!):=by
   show ∀ p,_→_→_;intro p h1 h2;rw[swp_get dk (by omega) (by omega),HF.out k (by omega) (by omega),HF.out (k+1) (by omega) (by omega),HF.out p h1 h2];simp only[Nat.lt_irrefl,Zc2,Zc6,show ¬ k+1<k by omega,show ¬ k+1=k by omega];by_cases e1:p=k+1
   ·subst e1;simp
   by_cases e2:p=k
   ·subst e2;simp
   simp only[e1,e2,Zc2];by_cases e3:p<k
   ·rw[Zgn e3,Zgn (by omega)]
   rw[Zgq e3,Zgq (by omega)]
  have hsz2:(swp dk k (k+1)).size=sz:=by rw[swp_size];exact hsk
  clear SK HP HF hvx hvy;go_wp2_with fail;go_big_region_o;clear ca cb2 cc fa fb;generalize ((wr.setCell ⟨blk,off+k,none⟩ (enc vy)).setCell ⟨blk,off+(k+1),none⟩ (enc vx)).drew=w3 at S3⊢;go_wp2_with fail;go_roundg (t-(k+1));case measure=>omega
  case rel=>exact⟨k+1,swp dk k (k+1),by go_num,by omega,by omega,Ym _,hsz2,S3,HP2,HF2⟩
 have hkz:¬ (k:Int)<(t:Int):=by omega
 obtain rfl:k=t:=by omega
 go_wp2_with fail;go_end0;exact⟨rfl,dk,SK.out,hsk,Pj HM.out hai hjb HP.out HL.out HH.out fun p h1 h2=>by rw[HF.out p h1 h2,show i-1=k by omega]⟩
end
section
open Go.Shelf Go.RowKit Go.Lib Go.Sort
variable {α:Type} [Inhabited α]
theorem N2(enc:α→Value)(key:α→Int)(idx:α→Nat)(sz blk off cap a m:Nat)(cb:Array Value)(d0 d:Array α)(w0 w:World)(hcmp:CmpLays1 prog 67 cb enc (cfK key) blk off sz w0)(R:Row1 enc w0 blk off d0)(hs:d0.size=sz)(hd:d.size=sz)(S:SW enc w0 blk off d w)
 (ham:a+1<m) (hb:m+1≤sz) (hsz:sz<4611686018427387904) (hm:Mg key idx a m (m+1) d) :
 Calls prog 136 #[.slice (some ⟨blk,off,none⟩) sz cap,.int .i64 a,.int .i64 m,.int .i64 ((m+1:Nat):Int),.func (.func 67) #[] cb] w (Gw enc key idx w0 sz blk off a (m+1) d):=by
 have mixed:=Bk;have eg:=Sn;have hcl0:=R.hO.cells;simp only[Value.cells]at hcl0;have hst:=R.hO.store prog;have HC:Aside _:=hcmp;have HM:Aside _:=hm;have S0:Aside (SW enc w0 blk off d w):=S;clear S hcmp hm;have q0:((m:Int)-(a:Int)==1)=false:=by simp;omega
 have q1:((m:Int)+1-(m:Int)==1)=true:=by simp;omega
 go_enter func136,ntmps136;go_wp2_with fail;go_loopg [14,15] (m-a) (fun g1 vi vj wr=>∃ (i j:Nat),vi=.int .i64 i∧vj=.int .i64 j∧a≤i∧i≤j∧j≤m∧j-i≤g1∧Aside (SW enc w0 blk off d wr)∧Aside (∀ q,a≤q→q<i→ltK key d[m]! d[q]! = false)∧Aside (∀ q,j≤q→q<m→ltK key d[m]! d[q]! = true));case atStart=>exact⟨a,m,rfl,rfl,by omega,by omega,by omega,by omega,S0,(show ∀ q,_→_→_ from fun q h1 h2=>by omega),(show ∀ q,_→_→_ from fun q h1 h2=>by omega)⟩
 clear S0;obtain⟨i,j,rfl,rfl,hai,hij,hjm,hg1,S1,HL,HH⟩:=hrel;by_cases hlt:i<j
 ·have hltz:(i:Int)<(j:Int):=by omega
  obtain⟨c,hc1,hc2⟩:∃ c,i+j≤2*c+1∧2*c≤i+j:=⟨(i+j)/2,by omega,by omega⟩;have rc:((i:Int)+(j:Int))/2=(c:Int):=by omega
  have pc:(0:Int)≤(c:Int):=by omega
  have bc:(c:Int)<(sz:Int):=by omega
  have pm:(0:Int)≤(m:Int):=by omega
  have bm:(m:Int)<(sz:Int):=by omega
  obtain⟨x,hx⟩:∃ x,x=d[m]!:=⟨_,rfl⟩;obtain⟨y,hy⟩:∃ x,x=d[c]!:=⟨_,rfl⟩;have la:=S1.out.cl R (by omega) m (by omega);have lb:=S1.out.cl R (by omega) c (by omega);rw[← hx]at la;rw[← hy]at lb;have hcm:=S1.out.cmp HC.out (by omega) x y;cases hlv:ltK key x y with
  | true =>
   have hv:cfK key x y<0:=Lf hlv;have hdv:decide (cfK key x y<0)=true:=Ye hv;have HH2:Aside (∀ q,c≤q→q<m→ltK key d[m]! d[q]! = true):=by
    show ∀ q,_→_→_;intro q h1 h2;have k1:=Qd HM.out.left (show a≤c by omega) h1 h2;rw[hx,hy]at hlv;simp only[ltK,Zgh]at hlv⊢;omega
   clear hx hy HH hlv;go_wp2_with fail;go_quiet_grown (first|(go_at_fn 67;refine Calls.grown_of (hcm _ _)));have S2:Aside (SW enc w0 blk off d (grow (wr.drewN nq) osq)):=S1.out.grown nq osq;clear la lb hcm S1;generalize grow (wr.drewN nq) osq=w2 at S2⊢;clear nq osq;go_wp2_with fail;go_roundg (c-i);case measure=>omega
   case rel=>exact⟨i,c,rfl,rfl,hai,by omega,by omega,Ym _,S2,HL,HH2⟩
  | false =>
   have hv:¬ cfK key x y<0:=Ea hlv;have hdv:decide (cfK key x y<0)=false:=Yf hv;have HL2:Aside (∀ q,a≤q→q<c+1→ltK key d[m]! d[q]! = false):=by
    show ∀ q,_→_→_;intro q h1 h2;have k1:=Qd HM.out.left h1 (show q≤c by omega) (by omega);rw[hx,hy]at hlv;simp only[ltK,Zg1]at hlv⊢;omega
   clear hx hy HL hlv;go_wp2_with fail;go_quiet_grown (first|(go_at_fn 67;refine Calls.grown_of (hcm _ _)));have S2:Aside (SW enc w0 blk off d (grow (wr.drewN nq) osq)):=S1.out.grown nq osq;clear la lb hcm S1;generalize grow (wr.drewN nq) osq=w2 at S2⊢;clear nq osq;go_wp2_with fail;go_roundg (j-(c+1));case measure=>omega
   case rel=>exact⟨c+1,j,by go_num,rfl,by omega,by omega,hjm,Ym _,S2,HL2,HH⟩
 have hltz:¬ (i:Int)<(j:Int):=by omega
 obtain rfl:i=j:=by omega
 go_wp2_with fail;go_loopg [17] (m-i) (fun g1 vk wr2=>∃ (k:Nat) (dk:Array α),vk=.int .i64 k∧i≤k∧k≤m∧k-i≤g1∧dk.size=sz∧Aside (SW enc w0 blk off dk wr2)∧Aside (PermIn a (m+1) d dk)∧Aside (∀ p,a≤p→p<m+1→dk[p]! = if p=k then d[m]! else if k<p then d[p-1]! else d[p]!));case atStart=>exact⟨m,d,rfl,by omega,Ym _,by omega,hd,S1,Zee _ _ _,(show ∀ p,_→_→_ from fun p h1 h2=>by by_cases e:p=m;(rw[Zgn e,e]);(rw[Zgq e,Zgq (by omega)]))⟩
 clear S1;obtain⟨k,dk,rfl,hik,hkm,hg2,hsk,SK,HP,HF⟩:=hrel;by_cases hkl:i<k
 ·have hkz:(i:Int)<(k:Int):=by omega
  obtain⟨kp,hkp,hkp'⟩:∃ t,t+1≤k∧k≤t+1:=⟨k-1,by omega,by omega⟩;have rk:(k:Int)-1=(kp:Int):=by omega
  have pk:(0:Int)≤(k:Int):=by omega
  have bk:(k:Int)<(sz:Int):=by omega
  have pk1:(0:Int)≤(kp:Int):=by omega
  have bk1:(kp:Int)<(sz:Int):=by omega
  obtain⟨vx,hvx⟩:∃ v,v=dk[k]!:=⟨_,rfl⟩;obtain⟨vy,hvy⟩:∃ v,v=dk[kp]!:=⟨_,rfl⟩;have S3:Aside (SW enc w0 blk off (swp dk k kp) ((wr.setCell ⟨blk,off+k,none⟩ (enc vy)).setCell ⟨blk,off+kp,none⟩ (enc vx)).drew):=by rw[hvx,hvy];exact SK.out.swapped R k kp (by omega) (by omega)
  have ca:=SK.out.c1 R (by omega) k (by omega);have cb2:=SK.out.c1 R (by omega) kp (by omega);have fa:=SK.out.f1 R (by omega) k (by omega);have fb:=SK.out.f1 R (by omega) kp (by omega);obtain⟨u,cc⟩:=SK.out.c2 R (by omega) k kp (by omega) (by omega) (enc vy);rw[← hvx]at ca;rw[← hvy]at cb2;have HP2:Aside (PermIn a (m+1) d (swp dk k kp)):=Zf9 _ _ _ _ _ HP.out (swp_permIn dk a (m+1) k kp (by omega) (by omega) (by omega) (by omega) (by omega));have HF2:Aside (∀ p,a≤p→p<m+1→(swp dk k kp)[p]! = if p=kp then d[m]! else if kp<p then d[p-1]! else d[p]!):=by
   show ∀ p,_→_→_;intro p h1 h2;rw[swp_get dk (by omega) (by omega),HF.out k (by omega) (by omega),HF.out kp (by omega) (by omega),HF.out p h1 h2];have e0:kp=k-1:=by omega
   simp only[Zc6,show ¬ kp=k by omega,show ¬ k<kp by omega,Zc2];by_cases e1:p=kp
   ·simp[e1]
   by_cases e2:p=k
   ·subst e2;rw[Zgq e1,Zgn rfl,Zgq e1,Zgn (by omega),e0]
   rw[Zgq e1,Zgq e2,Zgq e2,Zgq e1];by_cases e3:k<p
   ·rw[Zgn e3,Zgn (by omega)]
   rw[Zgq e3,Zgq (by omega)]
  have hsz2:(swp dk k kp).size=sz:=by rw[swp_size];exact hsk
  clear SK HP HF hvx hvy;go_wp2_with fail;go_big_region_o;clear ca cb2 cc fa fb;generalize ((wr.setCell ⟨blk,off+k,none⟩ (enc vy)).setCell ⟨blk,off+kp,none⟩ (enc vx)).drew=w3 at S3⊢;go_wp2_with fail;go_roundg (kp-i);case measure=>omega
  case rel=>exact⟨kp,swp dk k kp,by go_num,by omega,by omega,Ym _,hsz2,S3,HP2,HF2⟩
 have hkz:¬ (i:Int)<(k:Int):=by omega
 obtain rfl:i=k:=by omega
 go_wp2_with fail;go_end0;exact⟨rfl,dk,SK.out,hsk,Nc HM.out hai hjm HP.out HL.out HH.out HF.out⟩
theorem merge_any(enc:α→Value)(key:α→Int)(idx:α→Nat)(sz blk off cap:Nat)(cb:Array Value)(d0:Array α)(w0:World)(hcmp:CmpLays1 prog 67 cb enc (cfK key) blk off sz w0)(R:Row1 enc w0 blk off d0)(hs:d0.size=sz)(hsz:sz<4611686018427387904) :
 ∀ (G a m b:Nat) (d:Array α) (w:World),b-a≤G→a<m→m<b→b≤sz→d.size=sz→SW enc w0 blk off d w→Mg key idx a m b d →
 Calls prog 136 #[.slice (some ⟨blk,off,none⟩) sz cap,.int .i64 a,.int .i64 m,.int .i64 b,.func (.func 67) #[] cb] w (Gw enc key idx w0 sz blk off a b d):=by
 intro G
 induction G with
 | zero=>intro a m b d w h1 h2 h3;omega
 | succ G ih =>
  intro a m b d w hG ham hmb hb hd S hm;by_cases c1:m=a+1
  ·subst c1;exact Pk enc key idx sz blk off cap a b cb d0 d w0 w hcmp R hs hd S (by omega) hb hsz hm
  by_cases c2:b=m+1
  ·subst c2;exact N2 enc key idx sz blk off cap a m cb d0 d w0 w hcmp R hs hd S (by omega) hb hsz hm
  have mixed:=Bk;have eg:=Sn;have hcl0:=R.hO.cells;simp only[Value.cells]at hcl0;have hst:=R.hO.store prog;have HC:Aside _:=hcmp;have HM:Aside _:=hm;have S0:Aside (SW enc w0 blk off d w):=S;have IH:Aside _:=ih;clear S hcmp hm ih;have q0:((m:Int)-(a:Int)==1)=false:=by simp;omega
  have q1:((b:Int)-(m:Int)==1)=false:=by simp;omega
  obtain⟨mid,hm1,hm2⟩:∃ c,a+b≤2*c+1∧2*c≤a+b:=⟨(a+b)/2,by omega,by omega⟩;have rm:((a:Int)+(b:Int))/2=(mid:Int):=by omega
  obtain⟨n,hn1,hn2⟩:∃ n,n≤mid+m∧mid+m≤n:=⟨mid+m,by omega,by omega⟩;have rn:(mid:Int)+(m:Int)=(n:Int):=by omega
  have hsr:∃ s0 r0:Nat,(mid<m→((n:Int)-(b:Int)=(s0:Int))∧r0=mid)∧(¬ mid<m→s0=a∧r0=m)∧a≤s0∧s0≤r0∧r0≤m∧r0≤mid∧n≤s0+b∧(∀ s,s0≤s→s≤r0→(a<s→n-s<b→s0<s)∧(s<m→m<n-s→s<r0)):=by
   by_cases c:mid<m
   ·exact⟨mid+m-b,mid,fun _=>⟨by omega,rfl⟩,fun h=>absurd c h,by omega,by omega,by omega,by omega,by omega,fun s h1 h2=>⟨by omega,by omega⟩⟩
   exact⟨a,m,fun h=>absurd h c,fun _=>⟨rfl,rfl⟩,by omega,by omega,by omega,by omega,by omega,fun s h1 h2=>⟨by omega,by omega⟩⟩
  obtain⟨s0,r0,hA,hB,has0,hs0r,hr0m,hr0d,hsb,hedge⟩:=hsr;have HA:Aside _:=hA;have HB:Aside _:=hB;have HE:Aside _:=hedge;clear hA hB hedge;go_enter func136,ntmps136;go_upto_if 140 with fail;go_cut [20,21] (fun vi vj wx=>vi=.int .i64 s0∧vj=.int .i64 r0∧Aside (SW enc w0 blk off d wx));case first =>
   by_cases c:mid<m
   ·have hc:(mid:Int)<(m:Int):=by omega
    obtain⟨e1,e2⟩:=HA.out c;go_wp2_with fail;go_meet;exact⟨by rw[← e1],by rw[e2],S0⟩
   have hc:¬ (mid:Int)<(m:Int):=by omega
   obtain⟨e1,e2⟩:=HB.out c;go_wp2_with fail;go_meet;exact⟨by rw[e1],by rw[e2],S0⟩
  obtain⟨rfl,rfl,S1⟩:=hcut;clear S0 HA HB;obtain⟨p,hp1,hp2⟩:∃ p,p+1≤n∧n≤p+1:=⟨n-1,by omega,by omega⟩;have rp:(n:Int)-1=(p:Int):=by omega
  go_wp2_with fail;go_loopg [20,21] (r0-s0) (fun g1 vi vj wr=>∃ (i j:Nat),vi=.int .i64 i∧vj=.int .i64 j∧s0≤i∧i≤j∧j≤r0∧j-i≤g1∧Aside (SW enc w0 blk off d wr)∧Aside (∀ q,s0≤q→q<i→ltK key d[p-q]! d[q]! = false)∧Aside (∀ q,j≤q→q<r0→ltK key d[p-q]! d[q]! = true));case atStart=>exact⟨s0,r0,rfl,rfl,by omega,by omega,by omega,by omega,S1,(show ∀ q,_→_→_ from fun q h1 h2=>by omega),(show ∀ q,_→_→_ from fun q h1 h2=>by omega)⟩
  clear S1;obtain⟨i,j,rfl,rfl,hsi,hij,hjr,hg1,S1,HL,HH⟩:=hrel;by_cases hlt:i<j
  ·have hltz:(i:Int)<(j:Int):=by omega
   obtain⟨c,hc1,hc2⟩:∃ c,i+j≤2*c+1∧2*c≤i+j:=⟨(i+j)/2,by omega,by omega⟩;have rc:((i:Int)+(j:Int))/2=(c:Int):=by omega
   obtain⟨z,hz1,hz2⟩:∃ z,z+c≤p∧p≤z+c:=⟨p-c,by omega,by omega⟩;have rz:(p:Int)-(c:Int)=(z:Int):=by omega
   have pc:(0:Int)≤(c:Int):=by omega
   have bc:(c:Int)<(sz:Int):=by omega
   have pz:(0:Int)≤(z:Int):=by omega
   have bz:(z:Int)<(sz:Int):=by omega
   have ez:p-c=z:=by omega
   have wz:IntKind.i64.wrap (z:Int)=(z:Int):=by rw[Zfb];omega
   have ezn:((z:Int)).toNat=z:=by omega
   have ecn:((c:Int)).toNat=c:=by omega
   obtain⟨x,hx⟩:∃ x,x=d[z]!:=⟨_,rfl⟩;obtain⟨y,hy⟩:∃ x,x=d[c]!:=⟨_,rfl⟩;have la:=S1.out.cl R (by omega) z (by omega);have lb:=S1.out.cl R (by omega) c (by omega);rw[← hx]at la;rw[← hy]at lb;have hcm:=S1.out.cmp HC.out (by omega) x y;cases hlv:ltK key x y with
   | true =>
    as_aux_lemma =>
     have hv:cfK key x y<0:=Lf hlv;have hdv:decide (cfK key x y<0)=true:=Ye hv;have HH2:Aside (∀ q,c≤q→q<r0→ltK key d[p-q]! d[q]! = true):=by
      show ∀ q,_→_→_;intro q h1 h2;have k1:=Qd HM.out.left (show a≤c by omega) h1 (by omega);have k2:=Qd HM.out.right (show m≤p-q by omega) (show p-q≤z by omega) (by omega);rw[hx,hy]at hlv;simp only[ltK,Zgh]at hlv⊢;omega
     clear hx hy HH hlv ez;go_wp2_with fail;go_quiet_grown (first|(go_at_fn 67;refine Calls.grown_of (hcm _ _)));have S2:Aside (SW enc w0 blk off d (grow (wr.drewN nq) osq)):=S1.out.grown nq osq;clear la lb hcm S1;generalize grow (wr.drewN nq) osq=w2 at S2⊢;clear nq osq;go_wp2_with fail;go_roundg (c-i);case measure=>omega
     case rel=>exact⟨i,c,rfl,rfl,hsi,by omega,by omega,Ym _,S2,HL,HH2⟩
   | false =>
    as_aux_lemma =>
     have hv:¬ cfK key x y<0:=Ea hlv;have hdv:decide (cfK key x y<0)=false:=Yf hv;have HL2:Aside (∀ q,s0≤q→q<c+1→ltK key d[p-q]! d[q]! = false):=by
      show ∀ q,_→_→_;intro q h1 h2;have k1:=Qd HM.out.left (show a≤q by omega) (show q≤c by omega) (by omega);have k2:=Qd HM.out.right (show m≤z by omega) (show z≤p-q by omega) (by omega);rw[hx,hy]at hlv;simp only[ltK,Zg1]at hlv⊢;omega
     clear hx hy HL hlv ez;go_wp2_with fail;go_quiet_grown (first|(go_at_fn 67;refine Calls.grown_of (hcm _ _)));have S2:Aside (SW enc w0 blk off d (grow (wr.drewN nq) osq)):=S1.out.grown nq osq;clear la lb hcm S1;generalize grow (wr.drewN nq) osq=w2 at S2⊢;clear nq osq;go_wp2_with fail;go_roundg (j-(c+1));case measure=>omega
     case rel=>exact⟨c+1,j,by go_num,rfl,by omega,by omega,hjr,Ym _,S2,HL2,HH⟩
  have hltz:¬ (i:Int)<(j:Int):=by omega
  obtain rfl:i=j:=by omega
  obtain⟨e,he1,he2⟩:∃ e,e+i≤n∧n≤e+i:=⟨n-i,by omega,by omega⟩;have re:(n:Int)-(i:Int)=(e:Int):=by omega
  obtain⟨k1,k2⟩:=HE.out i hsi hjr;have hen:n-i=e:=by omega
  rw[hen]at k1 k2;have hlo:Aside (a<i→e<b→ltK key d[e]! d[i-1]! = false):=by
   show _→_→_;intro h1 h2;have:=HL.out (i-1) (by have:=k1 h1 h2;omega) (by omega)
   rwa [show p-(i-1)=e by omega]at this
  have hhi:Aside (i<m→m<e→ltK key d[e-1]! d[i]! = true):=by
   show _→_→_;intro h1 h2;have:=HH.out i (Ym _) (k2 h1 h2)
   rwa [show p-i=e-1 by omega]at this
  have hme:m≤e∧e≤b∧i≤mid∧mid≤e∧i+e=mid+m:=by omega
  obtain⟨g1,g2,g3,g4,g5⟩:=hme;have HG:Aside _:=g5;clear k1 k2 hen HL HH HE g5;go_upto_region 39 with fail;go_cut [185] (fun v wx=>v=.bool (decide (i<m)&&decide (m<e))∧wx=wr);case first =>
   as_aux_lemma =>
    by_cases h1:i<m
    ·have h1z:(i:Int)<(m:Int):=by omega
     by_cases h2:m<e
     ·have h2z:(m:Int)<(e:Int):=by omega
      go_wp2_with fail;go_meet;exact⟨by simp[h1,h2],rfl⟩
     have h2z:¬ (m:Int)<(e:Int):=by omega
     go_wp2_with fail;go_meet;exact⟨by simp[h2],rfl⟩
    have h1z:¬ (i:Int)<(m:Int):=by omega
    go_wp2_with fail;go_meet;exact⟨by simp[h1],rfl⟩
  obtain⟨rfl,rfl⟩:=hcut;go_upto_if 185 with fail;go_cut [24] (fun v wx=>v=.int .i64 e∧Aside (∃ d1,SW enc w0 blk off d1 wx∧d1.size=sz∧(∀ p,d1[p]! = Mu (fun k=>d[k]!) i m e p)∧PermIn i e d d1));case first =>
   as_aux_lemma =>
    have hid:(i=m∨e=m)→Aside (∃ d1,SW enc w0 blk off d1 wc∧d1.size=sz∧(∀ p,d1[p]! = Mu (fun k=>d[k]!) i m e p)∧PermIn i e d d1):=fun hh=>⟨d,S1.out,hd,fun p=>by
     unfold Mu;rcases hh with hh|hh
     ·split
      ·congr 1;omega
      split
      ·congr 1;omega
      rfl
     split
     ·omega
     split
     ·congr 1;omega
     rfl,Zee _ _ _⟩
    have HID:Aside _:=hid;clear hid;by_cases hh:i<m∧m<e
    ·obtain⟨h1,h2⟩:=hh;have hb1:decide (i<m)=true:=by simpa using h1
     have hb2:decide (m<e)=true:=by simpa using h2
     ·go_wp2_with fail;refine(Zu1 enc sz blk off cap i m e _ d0 d w0 _ R hs hd S1.out h1 h2 (by omega) hsz).mono ?_;rintro x w2 ⟨rfl,d1,S2,hs2,hF2,hP2⟩;have R2:Aside (∃ d1,SW enc w0 blk off d1 w2∧d1.size=sz∧(∀ p,d1[p]! = Mu (fun k=>d[k]!) i m e p)∧PermIn i e d d1):=⟨d1,S2,hs2,hF2,hP2⟩;clear S2 hs2 hF2 hP2;go_wp2_with fail;go_meet;exact⟨rfl,R2⟩
    have hb1:(decide (i<m)&&decide (m<e))=false:=by simp;omega
    go_wp2_with fail;go_meet;exact⟨rfl,HID.out (by omega)⟩
  obtain⟨rfl,hd1⟩:=hcut;obtain⟨d1,T1,hsz1,hF1,hP1⟩:=hd1.out;obtain⟨ML,MR,hP,hX⟩:=Zxk HM.out (by omega) (by omega) (by omega) (by omega) (by omega) g1 g2 HG.out g3 g4 hlo.out hhi.out hP1 hF1;have T2:Aside _:=T1;have ML2:Aside _:=ML;have MR2:Aside _:=MR;have HP2:Aside _:=hP;have HX2:Aside _:=hX;clear hd1 T1 hF1 hP1 ML MR hP hX HM hlo hhi S1 HG;go_upto_region 41 with fail;go_cut [199] (fun v wx=>v=.bool (decide (a<i)&&decide (i<mid))∧wx=wc);case first =>
   as_aux_lemma =>
    by_cases h1:a<i
    ·have h1z:(a:Int)<(i:Int):=by omega
     by_cases h2:i<mid
     ·have h2z:(i:Int)<(mid:Int):=by omega
      go_wp2_with fail;go_meet;exact⟨by simp[h1,h2],rfl⟩
     have h2z:¬ (i:Int)<(mid:Int):=by omega
     go_wp2_with fail;go_meet;exact⟨by simp[h2],rfl⟩
    have h1z:¬ (a:Int)<(i:Int):=by omega
    go_wp2_with fail;go_meet;exact⟨by simp[h1],rfl⟩
  obtain⟨rfl,rfl⟩:=hcut;go_upto_if 199 with fail;go_cut [24] (fun v wx=>v=.int .i64 e∧Aside (∃ d2,SW enc w0 blk off d2 wx∧d2.size=sz∧Merged key idx a mid d1 d2));case first =>
   as_aux_lemma =>
    by_cases hh:a<i∧i<mid
    ·obtain⟨h1,h2⟩:=hh;have hb1:decide (a<i)=true:=by simpa using h1
     have hb2:decide (i<mid)=true:=by simpa using h2
     ·go_wp2_with fail;refine(IH.out a i mid d1 _ (by omega) h1 h2 (by omega) hsz1 T2.out ML2.out).mono ?_;rintro x w2 ⟨rfl,d2,S2,hs2,hM2⟩;have R2:Aside (∃ d2,SW enc w0 blk off d2 w2∧d2.size=sz∧Merged key idx a mid d1 d2):=⟨d2,S2,hs2,hM2⟩;clear S2 hs2 hM2;go_wp2_with fail;go_meet;exact⟨rfl,R2⟩
    have hb1:(decide (a<i)&&decide (i<mid))=false:=by simp;omega
    go_wp2_with fail;go_meet;exact⟨rfl,d1,T2.out,hsz1,Nw ML2.out hh (by omega) (by omega)⟩
  obtain⟨rfl,hd2⟩:=hcut;obtain⟨d2,U1,hsz2,hM2⟩:=hd2.out;have U2:Aside _:=U1;have HM2:Aside _:=hM2;have MR3:Aside (Mg key idx mid e b d2):=by
   have g:∀ p,mid≤p→d2[p]! = d1[p]!:=fun p hp=>hM2.1.2.1 p (.inr hp)
   exact⟨fun p q h1 h2 h3=>by rw[g p h1,g q (by omega)];exact MR2.out.left p q h1 h2 h3,fun p q h1 h2 h3=>by rw[g p (by omega),g q (by omega)];exact MR2.out.right p q h1 h2 h3,fun p q h1 h2 h3 h4=>by rw[g p h1,g q (by omega)];exact MR2.out.sides p q h1 h2 h3 h4⟩
  have fin:Aside (∀ d3,Merged key idx mid b d2 d3→Merged key idx a b d d3):=by
   show ∀ d3,_→_;exact fun d3 h3=>Zv9 (by omega) (by omega) (by omega) HP2.out HX2.out HM2.out h3
  clear hd2 U1 hM2 HM2 HP2 HX2 T2 ML2 MR2;by_cases h1:mid<e
  ·have h1z:(mid:Int)<(e:Int):=by omega
   by_cases h2:e<b
   ·have h2z:(e:Int)<(b:Int):=by omega
    go_wp2_with fail;refine(IH.out mid e b d2 _ (by omega) h1 h2 (by omega) hsz2 U2.out MR3.out).mono ?_;rintro x w2 ⟨rfl,d3,S3,hs3,hM3⟩;have R3:Aside (SW enc w0 blk off d3 w2):=S3;have R4:Aside _:=hM3;clear S3 hM3;go_wp2_with fail;go_end0;exact⟨rfl,d3,R3.out,hs3,fin.out d3 R4.out⟩
   have h2z:¬ (e:Int)<(b:Int):=by omega
   go_wp2_with fail;go_end0;exact⟨rfl,d2,U2.out,hsz2,fin.out d2 (Nw MR3.out (by omega) (by omega) (by omega))⟩
  have h1z:¬ (mid:Int)<(e:Int):=by omega
  go_wp2_with fail;go_end0;exact⟨rfl,d2,U2.out,hsz2,fin.out d2 (Nw MR3.out (by omega) (by omega) (by omega))⟩
end
