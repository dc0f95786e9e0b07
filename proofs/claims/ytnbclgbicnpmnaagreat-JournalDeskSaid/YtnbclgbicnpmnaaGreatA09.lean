/- Lemmas of this claim: StabP, StabE, Ops, OrdA, OrdP, OrdB. Conditions: as named. -/
import Derived.Deep.MidRow
import Derived.Deep.WholeRow
import Derived.Test.YtnbclgbicnpmnaaGreatA06
import Derived.Test.YtnbclgbicnpmnaaGreatA08
namespace Go.Proofs.YtnbclgbicnpmnaaGreat
open Go.RowKit Go.Sort Tryz
set_option maxHeartbeats 0
set_option maxRecDepth 100000
set_option linter.all false
section
open Go.Sort
section
variable {α:Type} [Inhabited α] {key:α→Int} {idx:α→Nat}
def Ag(idx:α→Nat)(n B f:Nat)(d:Array α):Prop:=∀ p q,f≤p→f≤q→p<n→q<n→p/B<q/B→idx d[p]! < idx d[q]!
theorem Ag.perm{n B f a b:Nat}{d d':Array α}(h:Ag idx n B f d)(hp:PermIn a b d d')(hb:b≤n)(hn:n=d.size)(hfa:f≤a)(hs:∀ p q,a≤p→p<b→a≤q→q<b→p/B=q/B):Ag idx n B f d':=by
 intro p q fp fq hpn hqn hlt;by_cases h1:a≤p∧p<b
 ·by_cases h2:a≤q∧q<b
  ·have:=hs p q h1.1 h1.2 h2.1 h2.2;omega
  rw[hp.2.1 q (by omega)];refine Zc3 d d' a b (fun x=>idx x<idx d[q]!) (by omega) hp (fun k k1 k2=>h k q (by omega) fq (by omega) hqn ?_) p h1.1 h1.2;rw[hs k p k1 k2 h1.1 h1.2];exact hlt
 rw[hp.2.1 p (by omega)];by_cases h2:a≤q∧q<b
 ·refine Zc3 d d' a b (fun x=>idx d[p]! < idx x) (by omega) hp (fun k k1 k2=>h p k fp (by omega) hpn (by omega) ?_) q h2.1 h2.2;rw[hs k q k1 k2 h2.1 h2.2];exact hlt
 rw[hp.2.1 q (by omega)];exact h p q fp fq hpn hqn hlt
theorem Ag.double{n B f:Nat}{d:Array α}(h:Ag idx n B f d):Ag idx n (2*B) f d:=fun p q h1 h2 h3 h4 h5=>h p q h1 h2 h3 h4 (by
 rw[Zdu,← Nat.div_div_eq_div_mul,← Nat.div_div_eq_div_mul]at h5;omega)
theorem Zu0{n B:Nat}{d:Array α}(h:∀ p q,p<q→q<n→idx d[p]! < idx d[q]!)(f:Nat):Ag idx n B f d:=fun p q _ _ h3 h4 h5=>h p q (by
 rcases Zff p q with hh|hh
 ·exact hh
 have:=Nat.div_le_div_right (c:=B) hh;omega) h4
theorem Gq{B k p:Nat}(h1:k*B≤p)(h2:p<(k+1)*B):p/B=k:=by
 have hB:0<B:=by
  rcases Zfs B with h|h
  ·subst h;simp at h2
  exact h
 rw[Nat.div_eq_iff hB];rw[Zf5,Zem]at h2;rw[Zdu]at h1 h2;constructor
 ·rw[Zdu]at h1;omega
 rw[Zdu]at h2;omega
structure Ai(key:α→Int)(idx:α→Nat)(n k:Nat)(d0 d:Array α):Prop where
 perm:PermIn 0 n d0 d
 done:∀ j,j<k→SortedIn (lxK key idx) (j*20) ((j+1)*20) d
 rest:∀ p q,k*20≤p→p<q→q<n→idx d[p]! < idx d[q]!
 rank:Ag idx n 20 0 d
theorem SortedIn.keep{lt:α→α→Bool}{a b:Nat}{d d':Array α}(h:SortedIn lt a b d)(he:∀ p,a≤p→p<b→d'[p]! = d[p]!):SortedIn lt a b d':=fun p q h1 h2 h3=>by
 rw[he p h1 (by omega),he q (by omega) h3];exact h p q h1 h2 h3
theorem Ai.start{n:Nat}{d:Array α}(h:∀ p q,p<q→q<n→idx d[p]! < idx d[q]!):Ai key idx n 0 d d :=
 ⟨Zee _ _ _,fun j hj=>by omega,fun p q _ h2 h3=>h p q h2 h3,Zu0 h 0⟩
theorem Ai.step{n k b:Nat}{d0 d d':Array α}(h:Ai key idx n k d0 d)(hn:n=d.size)(hb1:k*20≤b)(hb2:b≤k*20+20)(hbn:b≤n)(hd:d'=insertionSort (ltK key) d (k*20) b) :
 PermIn 0 n d0 d'∧Ag idx n 20 0 d'∧SortedIn (lxK key idx) (k*20) b d'∧(∀ p,p<k*20∨b≤p→d'[p]! = d[p]!):=by
 rw[Ns (idx:=idx) (by omega) fun p q h1 h2 h3=>h.rest p q h1 h2 (by omega)]at hd;obtain⟨h1,h2⟩:=insertionSort_holds (lt:=lxK key idx) (Zwk key idx) d (k*20) b hb1 (by omega);rw[← hd]at h1 h2;refine⟨Zf9 _ _ _ _ _ h.perm (Zcj _ _ _ _ _ _ (Zgf _) hbn (by omega) h1),h.rank.perm h1 hbn hn (Zgf _) fun p q p1 p2 q1 q2=>?_,h2,fun p hp=>h1.2.1 p hp⟩;rw[Gq p1 (by omega),Gq q1 (by omega)]
theorem Ai.next{n k:Nat}{d0 d d':Array α}(h:Ai key idx n k d0 d)(hn:n=d.size)(hb:k*20+20≤n)(hd:d'=insertionSort (ltK key) d (k*20) (k*20+20)):Ai key idx n (k+1) d0 d':=by
 obtain⟨h1,h2,h3,h4⟩:=h.step hn (by omega) (Ym _) hb hd;refine⟨h1,fun j hj=>?_,fun p q p1 p2 p3=>?_,h2⟩
 ·by_cases e:j=k
  ·subst e;rw[Zf5,Zem];exact h3
  exact SortedIn.keep (h.done j (by omega)) fun p p1 p2=>h4 p (.inl (by have:(j+1)*20≤k*20:=Zgi _ (by omega);omega))
 rw[h4 p (.inr (by omega)),h4 q (.inr (by omega))];exact h.rest p q (by omega) p2 p3
structure Lp(key:α→Int)(idx:α→Nat)(n B:Nat)(d0 d:Array α):Prop where
 perm:PermIn 0 n d0 d
 done:∀ j,SortedIn (lxK key idx) (j*B) (min ((j+1)*B) n) d
 rank:Ag idx n B 0 d
theorem Ai.last{n k:Nat}{d0 d d':Array α}(h:Ai key idx n k d0 d)(hn:n=d.size)(hk:k*20≤n)(hb:n<k*20+20)(hd:d'=insertionSort (ltK key) d (k*20) n):Lp key idx n 20 d0 d':=by
 obtain⟨h1,h2,h3,h4⟩:=h.step hn hk (by omega) (Ym _) hd;refine⟨h1,fun j=>?_,h2⟩;rcases Zf1 j k with e|e|e
 ·have hm:(j+1)*20≤k*20:=Zgi _ (by omega);rw[Zef (by omega)];exact SortedIn.keep (h.done j e) fun p p1 p2=>h4 p (.inl (by omega))
 ·subst e;rw[Zec (by omega)];exact h3
 intro p q p1 p2 p3;have:(k+1)*20≤j*20:=Zgi _ (by omega);omega
structure Gv(key:α→Int)(idx:α→Nat)(n B k:Nat)(d0 d:Array α):Prop where
 perm:PermIn 0 n d0 d
 done:∀ j,j<k→SortedIn (lxK key idx) (j*(2*B)) ((j+1)*(2*B)) d
 rest:∀ j,2*k≤j→SortedIn (lxK key idx) (j*B) (min ((j+1)*B) n) d
 rank:Ag idx n B (k*(2*B)) d
 rank2:Ag idx n (2*B) 0 d
theorem Lp.mid{n B:Nat}{d0 d:Array α}(h:Lp key idx n B d0 d):Gv key idx n B 0 d0 d :=
 ⟨h.perm,fun j hj=>by omega,fun j _=>h.done j,by simpa using h.rank,h.rank.double⟩
theorem Zlb(k B:Nat):k*(2*B)=2*k*B:=by rw[← Zc7,Zdu k 2]
theorem Gv.mg{n B k b:Nat}{d0 d:Array α}(h:Gv key idx n B k d0 d)(hB:0<B)(hm:k*(2*B)+B≤b)(hb:b≤k*(2*B)+2*B)(hbn:b≤n)(hfull:b=k*(2*B)+2*B∨b=n):Mg key idx (k*(2*B)) (k*(2*B)+B) b d:=by
 have e:=Zlb k B;have e1:(2*k+1)*B=k*(2*B)+B:=by rw[Zf5,Zem,← e]
 have e2:(2*k+1+1)*B=k*(2*B)+2*B:=by rw[Zf5,Zem,e1];omega
 refine⟨?_,?_,fun p q h1 h2 h3 h4=>h.rank p q h1 (by omega) (by omega) (by omega) ?_⟩
 ·have:=h.rest (2*k) (Ym _)
  rwa [e1,Zef (by omega),← e]at this
 ·have:=h.rest (2*k+1) (by omega);rw[e1,e2]at this;rcases hfull with hf|hf
  ·rw[← hf,Zef hbn]at this;exact this
  rw[Zec (by omega),← hf]at this;exact this
 have d1:p/B=2*k:=Gq (by omega) (by omega);have d2:2*k+1≤q/B:=by rw[Nat.le_div_iff_mul_le hB];omega
 omega
theorem Gv.step{n B k b:Nat}{d0 d d':Array α}(h:Gv key idx n B k d0 d)(hn:n=d.size)(hb:b≤k*(2*B)+2*B)(hbn:b≤n)(hm:Merged key idx (k*(2*B)) b d d') :
 PermIn 0 n d0 d'∧Ag idx n (2*B) 0 d'∧(∀ p,p<k*(2*B)∨b≤p→d'[p]! = d[p]!)∧SortedIn (lxK key idx) (k*(2*B)) b d':=by
 refine⟨Zf9 _ _ _ _ _ h.perm (Zcj _ _ _ _ _ _ (Zgf _) hbn (by omega) hm.1),h.rank2.perm hm.1 hbn hn (Zgf _) fun p q p1 p2 q1 q2=>?_,fun p hp=>hm.1.2.1 p hp,hm.2⟩;have e:(k+1)*(2*B)=k*(2*B)+2*B:=by rw[Zf5,Zem]
 rw[Gq p1 (by omega),Gq q1 (by omega)]
theorem Gv.next{n B k:Nat}{d0 d d':Array α}(h:Gv key idx n B k d0 d)(hn:n=d.size)(hb:k*(2*B)+2*B≤n)(hm:Merged key idx (k*(2*B)) (k*(2*B)+2*B) d d'):Gv key idx n B (k+1) d0 d':=by
 obtain⟨h1,h2,h3,h4⟩:=h.step hn (Ym _) hb hm;have e:(k+1)*(2*B)=k*(2*B)+2*B:=by rw[Zf5,Zem]
 refine⟨h1,fun j hj=>?_,fun j hj=>?_,?_,h2⟩
 ·by_cases ej:j=k
  ·subst ej;rw[e];exact h4
  exact SortedIn.keep (h.done j (by omega)) fun p p1 p2=>h3 p (.inl (by have:(j+1)*(2*B)≤k*(2*B):=Zgi _ (by omega);omega))
 ·refine SortedIn.keep (h.rest j (by omega)) fun p p1 p2=>h3 p (.inr ?_)
  have:=Zgi B hj;rw[Nat.mul_add,Zf5,← Zlb]at this;omega
 intro p q p1 q1 p2 q2 hlt;rw[h3 p (.inr (by omega)),h3 q (.inr (by omega))];exact h.rank p q (by omega) (by omega) p2 q2 hlt
theorem Gv.fin{n B k:Nat}{d0 d:Array α}(h:Gv key idx n B k d0 d)(hb:n<k*(2*B)+2*B)(hl:SortedIn (lxK key idx) (k*(2*B)) n d):Lp key idx n (2*B) d0 d:=by
 refine⟨h.perm,fun j=>?_,h.rank2⟩;have e:(k+1)*(2*B)=k*(2*B)+2*B:=by rw[Zf5,Zem]
 rcases Zf1 j k with ej|ej|ej
 ·intro p q p1 p2 p3;exact h.done j ej p q p1 p2 (by omega)
 ·subst ej;intro p q p1 p2 p3;exact hl p q p1 p2 (by omega)
 intro p q p1 p2 p3;have:(k+1)*(2*B)≤j*(2*B):=Zgi _ (by omega);omega
theorem Gv.fin_one{n B k:Nat}{d0 d:Array α}(h:Gv key idx n B k d0 d)(hb:n≤k*(2*B)+B):Lp key idx n (2*B) d0 d:=by
 rcases Zfs B with h0|hB
 ·subst h0;exact⟨h.perm,fun j p q p1 p2 p3=>by simp at p3,h.rank2⟩
 refine h.fin (by omega) ?_;have:=h.rest (2*k) (Ym _);rw[← Zlb]at this;intro p q p1 p2 p3;refine this p q p1 p2 ?_;rw[Zf5,Zem,← Zlb];omega
theorem Gv.fin_two{n B k:Nat}{d0 d d':Array α}(h:Gv key idx n B k d0 d)(hn:n=d.size)(hm0:k*(2*B)≤n)(hb:n<k*(2*B)+2*B)(hm:Merged key idx (k*(2*B)) n d d'):Lp key idx n (2*B) d0 d':=by
 obtain⟨h1,h2,h3,h4⟩:=h.step hn (by omega) (Ym _) hm;refine⟨h1,fun j=>?_,h2⟩;have e:(k+1)*(2*B)=k*(2*B)+2*B:=by rw[Zf5,Zem]
 rcases Zf1 j k with ej|ej|ej
 ·have hh:(j+1)*(2*B)≤k*(2*B):=Zgi _ (by omega);rw[Zef (by omega)];exact SortedIn.keep (h.done j ej) fun p p1 p2=>h3 p (.inl (by omega))
 ·subst ej;intro p q p1 p2 p3;exact h4 p q p1 p2 (by omega)
 intro p q p1 p2 p3;have:(k+1)*(2*B)≤j*(2*B):=Zgi _ (by omega);omega
theorem Lp.whole{n B:Nat}{d0 d:Array α}(h:Lp key idx n B d0 d)(hB:n≤B):Merged key idx 0 n d0 d:=by
 refine⟨h.perm,fun p q p1 p2 p3=>?_⟩;have:=h.done 0;rw[Zcb,Zg7,Zem,Zec hB]at this;exact this p q p1 p2 p3
end
end
section
open Go.Shelf Go.RowKit Go.Lib Go.Sort
variable {α:Type} [Inhabited α]
theorem Zu9(enc:α→Value)(key:α→Int)(idx:α→Nat)(sz blk off cap:Nat)(cb:Array Value)(d0:Array α)(w0:World)(hcmp:CmpLays1 prog 67 cb enc (cfK key) blk off sz w0)(R:Row1 enc w0 blk off d0)(hs:d0.size=sz)(hsz:sz≤1000000000000000000)
 (hasc:∀ p q,p<q→q<sz→idx d0[p]! < idx d0[q]!) :
 Calls prog 99 #[.slice (some ⟨blk,off,none⟩) sz cap,.int .i64 sz,.func (.func 67) #[] cb] w0 (Gw enc key idx w0 sz blk off 0 sz d0):=by
 have HC:Aside _:=hcmp;have HI:Aside (Ai key idx sz 0 d0 d0):=Ai.start hasc;have S0:Aside (SW enc w0 blk off d0 w0):=SW.start R.hH;have h62:sz<4611686018427387904:=by omega
 clear hcmp hasc;go_enter func99,ntmps99;go_wp2_with fail;go_loopg [7,8] sz (fun g1 va vb wr=>∃ (k:Nat) (d:Array α),va=.int .i64 ((k*20:Nat):Int)∧vb=.int .i64 ((k*20+20:Nat):Int)∧k*20≤sz∧sz-k*20≤g1∧d.size=sz∧Aside (SW enc w0 blk off d wr)∧Aside (Ai key idx sz k d0 d));case atStart=>exact⟨0,d0,by go_num,by go_num,by omega,by omega,hs,S0,HI⟩
 clear S0 HI;obtain⟨k,d,rfl,rfl,hk,hg,hd,S1,HI⟩:=hrel;obtain⟨a,ha⟩:=gnX (k*20);have HA:=Zfy ha;rw[ha]at hk hg⊢;clear ha;by_cases hlt:a+20≤sz
 ·have hltz:((a+20:Nat):Int)≤(sz:Int):=by omega
  have hltz2:(a:Int)+20≤(sz:Int):=by omega
  go_wp2_with fail;refine(Dq enc key sz blk off cap a (a+20) cb d0 d w0 _ HC.out R hs hd S1.out (by omega) hlt h62).mono ?_;rintro x w2 ⟨rfl,S2⟩;have hd2:(insertionSort (ltK key) d a (a+20)).size=sz:=by
   have:=(HI.out.step (k:=k) (b:=k*20+20) hd.symm (by omega) (by omega) (by rw[HA.out];exact hlt) rfl).1.1;rw[HA.out]at this;omega
  have HI2:Aside (Ai key idx sz (k+1) d0 (insertionSort (ltK key) d a (a+20))):=HI.out.next hd.symm (by rw[HA.out];exact hlt) (by rw[HA.out]);have S2':Aside _:=S2;obtain⟨d2,hd2e⟩:=gnX (insertionSort (ltK key) d a (a+20));rw[hd2e]at hd2 HI2 S2';have HA2:(k+1)*20=a+20:=by rw[← HA.out,Zf5]
  clear S2 S1 HI hd2e;go_wp2_with fail;go_roundg (sz-(a+20));case measure=>omega
  case rel=>exact⟨k+1,d2,by rw[HA2];simp,by rw[HA2];go_num,by omega,by omega,hd2,S2',HI2⟩
 have hltz:¬ ((a+20:Nat):Int)≤(sz:Int):=by omega
 have hltz2:¬ (a:Int)+20≤(sz:Int):=by omega
 go_wp2_with fail;refine(Dq enc key sz blk off cap a sz cb d0 d w0 _ HC.out R hs hd S1.out hk (Ym _) h62).mono ?_;rintro x w2 ⟨rfl,S2⟩;have HM:Aside (Lp key idx sz 20 d0 (insertionSort (ltK key) d a sz)):=HI.out.last hd.symm (by rw[HA.out];exact hk) (by rw[HA.out];omega) (by rw[HA.out]);have S2':Aside _:=S2;obtain⟨d2,hd2e⟩:=gnX (insertionSort (ltK key) d a sz);rw[hd2e]at HM S2';have hd2:d2.size=sz:=by have:=HM.out.perm.1;omega
 clear S2 S1 HI hd2e HA hd hk hlt hltz hltz2 hg;go_wp2_with fail;go_loopg [6,7,8,9] sz (fun g1 vB va vb vm wr=>∃ (B:Nat) (d:Array α),vB=.int .i64 (B:Int)∧0<B∧B≤2000000000000000000∧sz-B≤g1∧d.size=sz∧Aside (SW enc w0 blk off d wr)∧Aside (Lp key idx sz B d0 d));case atStart=>exact⟨20,d2,by go_num,by omega,by omega,by omega,hd2,S2',HM⟩
 clear S2' HM hd2;obtain⟨B,d,rfl,hB0,hB1,hg,hd,S1,HM⟩:=hrel;by_cases hlt:B<sz
 ·have hltz:(B:Int)<(sz:Int):=by omega
  obtain⟨C,hC1,hC2⟩:∃ C,C≤2*B∧2*B≤C:=⟨2*B,Ym _,Ym _⟩;have rC:2*(B:Int)=(C:Int):=by omega
  have rC2:(B:Int)*2=(C:Int):=by omega
  have HN:Aside (Gv key idx sz B 0 d0 d):=HM.out.mid;clear HM;go_wp2_with fail;go_loopg [7,8] sz (fun g2 va vb wr2=>∃ (k a:Nat) (d:Array α),va=.int .i64 (a:Int)∧vb=.int .i64 ((a+C:Nat):Int)∧Aside (k*(2*B)=a)∧a≤sz∧sz-a≤g2∧d.size=sz∧Aside (SW enc w0 blk off d wr2)∧Aside (Gv key idx sz B k d0 d));case atStart=>exact⟨0,0,d,by go_num,by simp,(show 0*(2*B)=0 from Zcb _),by omega,by omega,hd,S1,HN⟩
  clear S1 HN hd;obtain⟨k,a,d,rfl,rfl,HA,hk,hg2,hd,S1,HN⟩:=hrel;have hCB:C=2*B:=by omega
  have HCB:Aside _:=hCB;clear hCB;by_cases hlt2:a+C≤sz
  ·have hz1:(a:Int)+(C:Int)≤(sz:Int):=by omega
   have hz2:((a+C:Nat):Int)≤(sz:Int):=by omega
   obtain⟨m,hm1,hm2⟩:∃ m,m≤a+B∧a+B≤m:=⟨a+B,Ym _,Ym _⟩;have rm:(a:Int)+(B:Int)=(m:Int):=by omega
   have HM2:Aside (Mg key idx a m (a+C) d):=by
    have:=HN.out.mg hB0 (b:=a+C) (by rw[HA.out];omega) (by rw[HA.out];omega) hlt2 (.inl (by rw[HA.out];omega));rw[HA.out]at this;rw[show m=a+B by omega];exact this
   go_wp2_with fail;refine(merge_any enc key idx sz blk off cap cb d0 w0 HC.out R hs h62 (a+C) a m (a+C) d _ (by omega) (by omega) (by omega) hlt2 hd S1.out HM2.out).mono ?_;rintro x w3 ⟨rfl,d3,S3,hs3,hM3⟩;have HN3:Aside (Gv key idx sz B (k+1) d0 d3):=HN.out.next hd.symm (by rw[HA.out];have:=HCB.out;omega) (by rw[HA.out,← HCB.out];exact hM3);have S3':Aside _:=S3;have HA3:Aside ((k+1)*(2*B)=a+C):=by show _=_;rw[Zf5,Zem,HA.out,HCB.out]
   clear S3 hM3 HN S1 HM2 rm;go_wp2_with fail;go_roundg (sz-(a+C));case measure=>omega
   case rel=>exact⟨k+1,a+C,d3,rfl,by go_num,HA3,hlt2,Ym _,hs3,S3',HN3⟩
  have hz1:¬ (a:Int)+(C:Int)≤(sz:Int):=by omega
  have hz2:¬ ((a+C:Nat):Int)≤(sz:Int):=by omega
  obtain⟨m,hm1,hm2⟩:∃ m,m≤a+B∧a+B≤m:=⟨a+B,Ym _,Ym _⟩;have rm:(a:Int)+(B:Int)=(m:Int):=by omega
  by_cases hms:m<sz
  ·have hz3:(m:Int)<(sz:Int):=by omega
   have HM2:Aside (Mg key idx a m sz d):=by
    have:=HN.out.mg hB0 (b:=sz) (by rw[HA.out];omega) (by rw[HA.out];omega) (Ym _) (.inr rfl);rw[HA.out]at this;rw[show m=a+B by omega];exact this
   go_wp2_with fail;refine(merge_any enc key idx sz blk off cap cb d0 w0 HC.out R hs h62 sz a m sz d _ (by omega) (by omega) (by omega) (Ym _) hd S1.out HM2.out).mono ?_;rintro x w3 ⟨rfl,d3,S3,hs3,hM3⟩;have HF:Aside (Lp key idx sz C d0 d3):=by
    have:=HN.out.fin_two hd.symm (by rw[HA.out];exact hk) (by rw[HA.out,← HCB.out];omega) (by rw[HA.out];exact hM3);rw[HCB.out];exact this
   have S3':Aside _:=S3;clear S3 hM3 HN S1 HM2 rm;go_wp2_with fail;go_roundg (sz-C);case measure=>omega
   case rel=>exact⟨C,d3,by go_num,by omega,by omega,Ym _,hs3,S3',HF⟩
  have hz3:¬ (m:Int)<(sz:Int):=by omega
  have HF:Aside (Lp key idx sz C d0 d):=by
   have:=HN.out.fin_one (by rw[HA.out];omega);rw[HCB.out];exact this
  clear HN;go_wp2_with fail;go_roundg (sz-C);case measure=>omega
  case rel=>exact⟨C,d,by go_num,by omega,by omega,Ym _,hd,S1,HF⟩
 have hltz:¬ (B:Int)<(sz:Int):=by omega
 go_wp2_with fail;go_end0;exact⟨rfl,d,S1.out,hd,HM.out.whole (by omega)⟩
theorem Ob(enc:α→Value)(key:α→Int)(idx:α→Nat)(sz blk off cap:Nat)(cb:Array Value)(d0:Array α)(w0:World)(hcmp:CmpLays1 prog 67 cb enc (cfK key) blk off sz w0)(R:Row1 enc w0 blk off d0)(hs:d0.size=sz)(hsz:sz≤1000000000000000000)
 (hasc:∀ p q,p<q→q<sz→idx d0[p]! < idx d0[q]!) :
 Calls prog 66 #[.slice (some ⟨blk,off,none⟩) sz cap,.func (.func 67) #[] cb] w0 (Gw enc key idx w0 sz blk off 0 sz d0):=by
 have HS:Aside _:=Zu9 enc key idx sz blk off cap cb d0 w0 hcmp R hs hsz hasc;clear hcmp hasc R;go_enter func66,ntmps66;go_wp2_with fail;refine Zc1 HS.out ?_;rintro x w2 ⟨rfl,d,S,h1,h2⟩;have S':Aside _:=S;have H2:Aside _:=h2;clear S h2;go_wp2_with fail;go_end0;exact⟨rfl,d,S'.out,h1,H2.out⟩
end
structure Opn where
 cl:Int
 op:Int
 ttl:Int
 nv:Value
 ns:List Nm
 bad:Zzk
 begun:Int
 dec:Int
 ans:Int
 res:Zzk
def opC(o:Opn):List Value:=[.int .i64 o.cl,.int .i64 o.op,.int .i64 o.ttl,o.nv,.int .i64 o.bad.e,.int .i64 o.bad.at_,.string o.bad.nm,.int .i64 o.bad.rc.st,.int .i64 o.bad.rc.ow,.string o.bad.rc.nm,.int .i64 o.bad.rc.dl,.int .i64 o.bad.tick,.int .i64 o.begun,.int .i64 o.dec,.int .i64 o.ans,.int .i64 o.res.e,.int .i64 o.res.at_,.string o.res.nm,.int .i64 o.res.rc.st,.int .i64 o.res.rc.ow,.string o.res.rc.nm,.int .i64 o.res.rc.dl,.int .i64 o.res.tick]
def opV(o:Opn):Value:=.agg #[.int .i64 o.cl,.int .i64 o.op,.int .i64 o.ttl,o.nv,.int .i64 o.bad.e,.int .i64 o.bad.at_,.string o.bad.nm,.int .i64 o.bad.rc.st,.int .i64 o.bad.rc.ow,.string o.bad.rc.nm,.int .i64 o.bad.rc.dl,.int .i64 o.bad.tick,.int .i64 o.begun,.int .i64 o.dec,.int .i64 o.ans,.int .i64 o.res.e,.int .i64 o.res.at_,.string o.res.nm,.int .i64 o.res.rc.st,.int .i64 o.res.rc.ow,.string o.res.rc.nm,.int .i64 o.res.rc.dl,.int .i64 o.res.tick]
def Lx:List Opn→List Value
 | []=>[]
 | o::l=>opC o++Lx l
theorem Ug(o:Opn):(opC o).length=23:=rfl
theorem Mz:∀ l:List Opn,(Lx l).length=l.length*23
 | []=>rfl
 | o::l=>by rw[Lx,Zs,Mz l,Ug,Zl];omega
theorem Zy7:∀ {l:List Opn} {j:Nat} {o:Opn},l[j]?=some o→∀ k,k<23→(Lx l)[j*23+k]?=(opC o)[k]?
 | [],j,o,h,_,_=>by simp at h
 | q::r,0,o,h,k,hk=>by
  have e:q=o:=by simpa using h
  rw[Lx,Ze (by rw[Ug];omega),show 0*23+k=k by omega,e]
 | q::r,j+1,o,h,k,hk=>by
  have:=Zy7 (l:=r) (j:=j) (o:=o) (by simpa using h) k hk;rw[Lx,Zd (by rw[Ug];omega),Ug,← this,show(j+1)*23+k-23=j*23+k by omega]
def Gt(w:World)(S:Nat→Prop)(v:Value)(l:List Opn):Prop:=Rd w S 23 v l.length (Lx l)∧∀ o∈l,Wo w S o.nv o.ns
theorem Gt.ext{w w':World}{S:Nat→Prop}{v:Value}{l:List Opn}(h:Gt w S v l)(x:Ext w w'):Gt w' S v l:=⟨Rd.ext h.1 x,fun p hp=>(h.2 p hp).ext x⟩
theorem Gt.chg{S T:Nat→Prop}{w w':World}{v:Value}{l:List Opn}(h:Gt w S v l)(c:Chg T w w')(hd:∀ k,S k→¬ T k):Gt w' S v l:=⟨Rd.chg h.1 c hd,fun p hp=>Rd.chg (h.2 p hp) c hd⟩
theorem Gt.shape{w:World}{S:Nat→Prop}{v:Value}{l:List Opn}(h:Gt w S v l):∃ A c,v=.slice A l.length c:=by
 obtain⟨_,A,c,hv,_⟩:=h.1;exact⟨A,c,hv⟩
def Zza(w:World)(b p:Nat)(o:Opn):Prop:=b<w.heap.size∧∀ k,k<23→w.cell? ⟨b,p+k,none⟩=(opC o)[k]?
theorem Zza.chg{S:Nat→Prop}{w w':World}{b p:Nat}{o:Opn}(h:Zza w b p o)(c:Chg S w w')(hb:¬ S b):Zza w' b p o :=
 ⟨Zgp h.1 c.size,fun k hk=>(c.cell (p:=⟨b,p+k,none⟩) h.1 hb).trans (h.2 k hk)⟩
theorem Zza.ext{w w':World}{b p:Nat}{o:Opn}(h:Zza w b p o)(x:Ext w w'):Zza w' b p o:=h.chg (x.chg fun _=>False) (fun h=>h)
theorem Zza.dec{w:World}{b p:Nat}{o:Opn}(h:Zza w b p o):w.cell? ⟨b,p+13,none⟩=some (.int .i64 o.dec):=h.2 13 (by omega)
theorem Gt.get{w:World}{S:Nat→Prop}{v:Value}{l:List Opn}(h:Gt w S v l){j:Nat}{o:Opn}(hj:l[j]?=some o) :
 ∃ g p c,v=.slice (some ⟨g,p,none⟩) l.length c∧l.length≤c∧c≤maxLen∧S g∧Zza w g (p+j*23) o∧Wo w S o.nv o.ns:=by
 obtain⟨g,p,c,hv,h1,h2,h3,h4,hc⟩:=h.1.at_ (Zr.1 hj).1;refine⟨g,p,c,hv,h1,h2,h3,⟨h4,fun k hk=>?_⟩,h.2 o (Zy hj)⟩;have q:=Zy7 hj k hk;have hk':k<(opC o).length:=by rw[Ug];exact hk
 rw[Zfh,hc (j*23+k) (opC o)[k] (by rw[q];exact Zz hk')];exact(Zz hk').symm
open Go.RowKit Go.Sort Go.Shelf
def cfI(x y:Int):Int:=if x<y then -1 else if y<x then 1 else 0
theorem Nr(x:Int)(w:World):Calls prog 100 #[.int .i64 x] w fun e w'=>e=.returned (.bool false)∧w=w':=by
 go_enter func100,ntmps100;go_wp2;go_ret;simp
theorem Zyy(x y:Int)(w:World):Calls prog 68 #[.int .i64 x,.int .i64 y] w fun e w'=>e=.returned (.int .i64 (cfI x y))∧w=w':=by
 by_cases h1:x<y
 ·have H:=Y8 (show cfI x y = -1 by simp[cfI,h1]);go_enter func68,ntmps68;go_wp2_with (go_at_call 100;refine(Nr _ _).mono ?_;rintro e w' ⟨rfl,rfl⟩);go_ret;exact⟨by rw[H.o];rfl,rfl⟩
 by_cases h2:y<x
 ·have H:=Y8 (show cfI x y=1 by simp[cfI,h1,h2]);go_enter func68,ntmps68;go_wp2_with (go_at_call 100;refine(Nr _ _).mono ?_;rintro e w' ⟨rfl,rfl⟩);go_ret;exact⟨by rw[H.o];rfl,rfl⟩
 have H:=Y8 (show cfI x y=0 by simp[cfI,h1,h2]);go_enter func68,ntmps68;go_wp2_with (go_at_call 100;refine(Nr _ _).mono ?_;rintro e w' ⟨rfl,rfl⟩);go_ret;exact⟨by rw[H.o];rfl,rfl⟩
theorem Zu3{P:Program}{f:FuncId}{args:Array Value}{w:World}{v:Value}(h:Calls P f args w fun e w'=>e=.returned v∧w=w'):Calls P f args w fun e w'=>e=.returned v∧∃ q os',w'=grow (w.drewN q) os' :=
 h.mono fun _ _ ⟨he,hw⟩=>⟨he,0,#[],by rw[grow_empty,← hw];rfl⟩
theorem Zz8{S:Nat→Prop}(B i j:Nat)(A:Option Addr)(C:Nat)(os:List Opn)(a b:Opn)(W:World)(hB:W.cell? ⟨B,0,none⟩=some (.slice A os.length C))(ho:Gt W S (.slice A os.length C) os)(ha:os[i]?=some a)(hb:os[j]?=some b) :
 Calls prog 67 #[.int .i64 i,.int .i64 j,.pointer (some ⟨B,0,none⟩)] W fun e w'=>e=.returned (.int .i64 (cfI a.dec b.dec))∧∃ q os',w'=grow (W.drewN q) os':=by
 have mixed:=Bk;obtain⟨g,p,c,hv,h1,h2,_,hA,_⟩:=ho.get ha;obtain⟨g',p',c',hv',_,_,_,hA',_⟩:=ho.get hb;simp only[Yd,Zg0]at hv hv';obtain⟨rfl,rfl⟩:=hv;simp only[Yc,Zga,Zfw]at hv';obtain⟨⟨rfl,rfl⟩,rfl⟩:=hv';have hi:=(Zr.1 ha).1;have hj:=(Zr.1 hb).1;have hBl:=lt_of_cell hB;have kB:=fun n os=>cell_grown (w:=W) hBl hB n os
 have ka:=fun n os=>cell_grown (w:=W) (a:=⟨g,p+i*23+13,none⟩) hA.1 hA.dec n os
 have kb:=fun n os=>cell_grown (w:=W) (a:=⟨g,p+j*23+13,none⟩) hA'.1 hA'.dec n os
 have hc:=fun n os=>Zu3 (Zyy a.dec b.dec (grow (W.drewN n) os))
 have q1:(0:Int)≤(i:Int):=by omega
 have q2:(i:Int)<(os.length:Int):=by omega
 have q3:(0:Int)≤(j:Int):=by omega
 have q4:(j:Int)<(os.length:Int):=by omega
 obtain⟨n,hn⟩:=gnX (os.length);rw[hn]at q2 q4 kB;clear hn ha hb hA hA' ho hB h1 hi hj;go_enter func67,ntmps67;go_wp2_with fail;go_quiet_grown (first|(go_at_call 68;refine Calls.grown_of (hc _ _)));go_wp2_with fail;go_ret;exact⟨rfl,_,_,rfl⟩
def Uy(os:List Opn)(i:Nat):Int:=match os[i]? with|some o=>o.dec|none=>-1
def Pm(os:List Opn)(i:Nat):Bool:=Uy os i != -1
theorem Jk{os:List Opn}{i:Nat}{o:Opn}(h:os[i]?=some o):Uy os i=o.dec:=by simp[Uy,h]
theorem Fy{os:List Opn}{i:Nat}(h:Pm os i=true):i<os.length:=by
 unfold Pm Uy at h;cases e:os[i]? with
 | none=>rw[e]at h;simp at h
 | some o=>exact(Zr.1 e).1
def lxO(os:List Opn)(i j:Nat):Bool:=decide (Uy os i<Uy os j∨Uy os i=Uy os j∧i<j)
structure Zt0(os:List Opn)(l:List Nat):Prop where
 asc:l.Pairwise (fun i j=>lxO os i j=true)
 mem:∀ i,i∈l↔Pm os i=true
theorem Gb{α:Type}{R:α→α→Prop}(irr:∀ x,¬ R x x)(asy:∀ x y,R x y→¬ R y x):∀ {a b:List α},a.Pairwise R→b.Pairwise R→(∀ x,x∈a↔x∈b)→a=b
 | [],[],_,_,_=>rfl
 | [],y::b,_,_,h=>by have:=(h y).2 (Zdo ..);simp at this
 | x::a,[],_,_,h=>by have:=(h x).1 (Zdo ..);simp at this
 | x::a,y::b,ha,hb,h=>by
  rw[Zg5]at ha hb;have e:x=y:=by
   have h1:=(h x).1 (Zdo ..);have h2:=(h y).2 (Zdo ..);rcases Zg.1 h1 with e|h1
   ·exact e
   rcases Zg.1 h2 with e|h2
   ·exact e.symm
   exact absurd (ha.1 y h2) (asy _ _ (hb.1 x h1))
  subst e;congr 1;refine Gb irr asy ha.2 hb.2 fun z=>?_
  constructor
  ·intro hz;rcases Zg.1 ((h z).1 (Zel _ hz))with e|h1
   ·subst e;exact absurd (ha.1 z hz) (irr z)
   exact h1
  intro hz;rcases Zg.1 ((h z).2 (Zel _ hz))with e|h1
  ·subst e;exact absurd (hb.1 z hz) (irr z)
  exact h1
theorem Zt0.unique{os:List Opn}{a b:List Nat}(ha:Zt0 os a)(hb:Zt0 os b):a=b :=
 Gb (fun x=>by simp[lxO]) (fun x y=>by simp only[lxO,Zgh];omega) ha.asc hb.asc fun x=>by rw[ha.mem,hb.mem]
def F6(os:List Opn)(i:Nat):List Nat:=(List.range i).filter (Pm os)
theorem Iq(os:List Opn)(i:Nat):F6 os (i+1)=if Pm os i then F6 os i++[i]else F6 os i:=by
 unfold F6;rw[Zdn,Ze1];by_cases h:Pm os i=true<;>simp[h]
theorem So(os:List Opn)(i:Nat):(F6 os i).length≤i:=by
 have:=Zdb (Pm os) (List.range i);simpa[F6]using this
theorem L8{os:List Opn}{i j:Nat}:j∈F6 os i↔j<i∧Pm os j=true:=by simp[F6]
theorem Sq(os:List Opn)(i:Nat):(F6 os i).Pairwise (· < ·):=List.Pairwise.filter _ List.pairwise_lt_range
def Us(os:List Opn):List Nat:=(F6 os os.length).mergeSort (fun i j=>!lxO os j i)
theorem Kb(os:List Opn):Zt0 os (Us os):=by
 have hs:(Us os).Pairwise (fun i j=>(!lxO os j i)=true):=Zcl
  (fun a b c h1 h2=>by simp only[Zex,lxO,Zg1]at h1 h2⊢;omega)
  (fun a b=>by simp only[Zei,Zex,lxO,Zg1];omega) _
 have hp:=Zd4 (F6 os os.length) (fun i j=>!lxO os j i);have hn:(Us os).Nodup:=hp.nodup_iff.2 ((Sq os os.length).imp fun h=>Zde h);refine⟨?_,fun i=>?_⟩
 ·refine(hs.and hn).imp fun {a b} ⟨h1,h2⟩=>?_
  simp only[Zex,lxO,Zg1,Zgh]at h1⊢;omega
 rw[Us,hp.mem_iff,L8];exact⟨fun h=>h.2,fun h=>⟨Fy h,h⟩⟩
theorem Zwf(os:List Opn):(Us os).length≤os.length:=by
 rw[Us,List.length_mergeSort];exact So _ _
section
open Go.RowKit Go.Sort Go.Shelf
theorem Zza.range{w:World}{b p:Nat}{o:Opn}(h:Zza w b p o):w.rangeAt b p (opC o):=fun j v hv=>by
 rw[h.2 j (by have:=(Zr.1 hv).1;rwa [Ug]at this),hv]
theorem Zh4:(prog.underlying 55).map TypeDesc.isRow=some true:=by kernel_rfl
theorem Zr4:(prog.info? 55).map (·.size)=some 23:=by kernel_rfl
theorem Zqa(o:Opn):opV o=.agg (opC o).toArray:=rfl
def opO(o:Opn):Obj:=.cells (opC o).toArray 55
theorem Zks(w:World)(o:Opn):Zza (w.alloc (opO o)) w.heap.size 0 o:=by
 refine⟨by simp,fun k hk=>?_⟩;unfold opO;rw[Zg7,cell_of_row _ _ k (opC o).toArray 55 (0,0) (Zg3 w _)];simp
section
variable {ops:Array Oper} {rest:List Oper} {dst:Option Nat} {x y:Operand} {t:TypeId} {pos:String} {af:Array Edge} {a:Act} {w:World} {Q:Exit→Act→World→Prop} {b p:Nat} {o:Opn}
theorem Ua(h:Zza w b p o)(hx:a.eval x=.pointer (some ⟨b,p,none⟩))(hK:wpList prog ops Q rest (a.put dst (opV o)) w) :
 wpList prog ops Q ({dst:=dst,op:=.load 55 x,type:=t,pos:=pos,after:=af,guard:=none}::rest) a w:=by
 have hu:=Zh4;rw[Zg9]at hu;obtain⟨d,hu,hd⟩:=hu;exact wpList_load_mid rfl _ x rfl b p hx (opC o) d h.range hu hd (by rw[Zr4];rfl) hK
theorem K0{c:Array Value}(hc:c.size=23)(hx:a.eval x=.pointer (some ⟨w.heap.size,0,none⟩))(hy:a.eval y=opV o)(hnv:o.nv.oneCell'=true)(hK:wpList prog ops Q rest (a.put dst undef) (w.alloc (opO o))) :
 wpList prog ops Q ({dst:=dst,op:=.store 55 x y,type:=t,pos:=pos,after:=af,guard:=none}::rest) a (w.alloc (.cells c 55)):=by
 refine Zdd rfl fun _ hK'=>?_
 unfold Oper.wp execOp;rw[Zqa]at hy;have hall:(opC o).toArray.all (·.oneCell')=true:=by
  have e:∀ v∈opC o,v.oneCell'=true:=by
   intro v hv;simp only[opC,Zg,Zh,Zfi]at hv;rcases hv with rfl|rfl|rfl|rfl|rfl|rfl|rfl|rfl|rfl|rfl|rfl|rfl|rfl|rfl|rfl|rfl|rfl|rfl|rfl|rfl|rfl|rfl|rfl<;>first|exact hnv|rfl
  simpa using e
 have hrun:=run_storeAt_new (P:=prog) w 55 c (opC o).toArray (by rw[Zr4];rfl) hc hall;simp only[hx,hy,Zcx,hrun,Ze6,Zcw];exact hK' _ _ hK
end
def Zj9(i:Nat):Value:=.int .i64 (i:Int)
def Zx0(w:World)(S:Nat→Prop)(v:Value)(l:List Nat):Prop:=Rd w S 1 v l.length (l.map Zj9)
theorem Pl(A:Option Addr)(C:Nat)(fv:Value)(w:World):Calls prog 135 #[.slice A 0 C,.int .i64 0,.int .i64 0,fv] w fun e w'=>e=.returned (.tuple #[])∧w=w':=by
 go_enter func135,ntmps135;go_wp2_with fail;go_loopw [8] (fun v wr=>v=.int .i64 1∧w=wr) (fun _ _=>0);case atStart=>exact⟨rfl,rfl⟩
 obtain⟨rfl,rfl⟩:=hrel;go_wp2_with fail;go_end0;exact⟨rfl,rfl⟩
theorem Zxj(A:Option Addr)(C:Nat)(fv:Value)(w:World):Calls prog 99 #[.slice A 0 C,.int .i64 0,fv] w fun e w'=>e=.returned (.tuple #[])∧w=w':=by
 go_enter func99,ntmps99;go_wp2_with fail;go_loopw [7,8] (fun u v wr=>u=.int .i64 0∧v=.int .i64 20∧w=wr) (fun _ _ _=>0);case atStart=>exact⟨rfl,rfl,rfl⟩
 obtain⟨rfl,rfl,rfl⟩:=hrel;go_wp2_with (go_at_call 135;refine(Pl _ _ _ _).mono ?_;rintro e w' ⟨rfl,rfl⟩);go_loopw [6] (fun v wr=>v=.int .i64 20∧w=wr) (fun _ _=>0);case atStart=>exact⟨rfl,rfl⟩
 obtain⟨rfl,rfl⟩:=hrel;go_wp2_with fail;go_end0;exact⟨rfl,rfl⟩
theorem Zp1(A:Option Addr)(C:Nat)(fv:Value)(w:World):Calls prog 66 #[.slice A 0 C,fv] w fun e w'=>e=.returned (.tuple #[])∧w=w':=by
 go_enter func66,ntmps66;go_wp2_with (go_at_call 99;refine(Zxj _ _ _ _).mono ?_;rintro e w' ⟨rfl,rfl⟩);go_end0;exact⟨rfl,rfl⟩
def Zs5{n:Nat}(i:Fin n):Value:=Zj9 i.val
theorem Zn3{n:Nat}:OneCell (Zs5 (n:=n)):=fun _=>rfl
theorem Zkl{α:Type}[Inhabited α]{enc:α→Value}{w0 W:World}{blk off:Nat}{d:Array α}(h:SW enc w0 blk off d W):Chg (· = blk) w0 W:=by
 obtain⟨m,os,rfl⟩:=h;unfold sortWorld;refine⟨rfl,rfl,rfl,?_,fun k hk hne=>?_⟩
 ·show w0.heap.size≤((putRow enc (Sort.ahead w0 m) blk off d).heap++os).size;rw[Zcp,Sort.size_putRow];exact Nat.le_add_right _ _
 show((putRow enc (Sort.ahead w0 m) blk off d).heap++os)[k]?=_;rw[Ze8 (by rw[Sort.size_putRow];exact hk)];simp only[putRow,mapBlock,Sort.heap_ahead];rw[Zes,Zgq (fun e=>hne e.symm)]
theorem Zp2{os:List Opn}{N:Nat}[Inhabited (Fin N)]{sz:Nat}{d0 d:Array (Fin N)}(h0:d0.toList.map (·.val)=F6 os os.length)(hsz:d0.size=sz)(h:Merged (fun i:Fin N=>Uy os i.val) (fun i:Fin N=>i.val) 0 sz d0 d):d.toList.map (·.val)=Us os:=by
 obtain⟨hp,hs⟩:=h;have hds:d.size=sz:=by rw[hp.1,hsz]
 have hperm:d.toList.Perm d0.toList:=by
  have:=hp.2.2;rw[← hsz]at this;have e1:d0.extract 0 d0.size=d0:=by simp
  have e2:d.extract 0 d0.size=d:=by rw[hsz,← hds];simp
  rw[e1,e2]at this;exact this
 have hnd:(d.toList.map (·.val)).Nodup:=(hperm.map _).nodup_iff.2 (by rw[h0];exact(Sq os os.length).imp fun h=>Zde h);refine Zt0.unique ⟨?_,fun i=>?_⟩ (Kb os)
 ·rw[Zfz];intro i j hi hj hij;simp only[Zq,Zdw]at hi hj;have h1:=hs i j (Zgf _) hij (by omega);have hne:(d.toList.map (·.val))[i]'(by simpa using hi)≠(d.toList.map (·.val))[j]'(by simpa using hj):=by
   intro e;have:=(List.getElem_inj hnd).1 e;omega
  simp only[Zcg,Array.getElem_toList]at hne⊢;rw[Zda d i hi,Zda d j hj]at h1;simp only[lxK,lxO,Zg1,Zgh]at h1⊢;omega
 rw[(hperm.map _).mem_iff,h0,L8];exact⟨fun h=>h.2,fun h=>⟨Fy h,h⟩⟩
def Znq(os:List Opn)(w:World)(e:Ending)(w':World):Prop:=∃ v,e=.returned v∧Zx0 w' (fun k=>w.heap.size≤k) v (Us os)∧Ext w w'
theorem Gt.mono{w:World}{S T:Nat→Prop}{v:Value}{l:List Opn}(h:Gt w S v l)(hST:∀ k,S k→k<w.heap.size→T k):Gt w T v l:=⟨Rd.mono h.1 hST,fun p hp=>Rd.mono (h.2 p hp) hST⟩
theorem Zq6{S:Nat→Prop}(v:Value)(os:List Opn)(w:World)(ho:Gt w S v os)(hn:os.length≤1000000000000) :
 Calls prog 28 #[v] w (Znq os w):=by
 obtain⟨i0,hi0,hz0,hz1,hz2⟩:=Zgl Zr0;obtain⟨A,C,rfl⟩:=ho.shape;obtain⟨n,hnn⟩:=gnX (os.length);have Hnn:=Y8 hnn;have Ho:=Y8 (ho.mono (T:=fun k=>k<w.heap.size) fun k _ hk=>hk);rw[hnn]at hn⊢;clear hnn ho;go_enter func28,ntmps28;go_wp2_with fail;go_loopw [3,8] (fun l o wr=>∃ i:Nat,i≤n∧o=.int .i64 (i:Int)∧wr.ownsRow (w.heap.size+1) 3 1 l (F6 os i).length ((F6 os i).map Zj9)∧Ext w wr∧wr.cell? ⟨w.heap.size,0,none⟩=some (.slice A n C)∧w.heap.size<wr.heap.size) (fun _ o _=>n-(intOf o).toNat);case atStart=>exact⟨0,by omega,rfl,Zfj _ _ _ _,(Yk w).alloc _,by go_simp,by simp⟩
 obtain⟨i,hi,rfl,hrow,hx,hB,hBl⟩:=hrel;by_cases hin:i<n
 ·have hd:decide ((i:Int)<(n:Int))=true:=by simp;omega
  obtain⟨o,hoi⟩:∃ o,os[i]?=some o:=⟨os[i]'(by rw[Hnn.o];exact hin),by rw[Zz]⟩;obtain⟨g,p,c,hv,hc1,hc2,_,hA,hN⟩:=(Ho.o.ext hx).get hoi;simp only[Yd]at hv;obtain⟨rfl,_,rfl⟩:=hv;rw[Hnn.o]at hc1;have hC:C≤9223372036854775807:=by unfold maxLen at hc2;omega
  have HA:=Y8 hA;have hN2:=hN.shape;obtain⟨nA,nC,hnv⟩:=hN2;have hone:o.nv.oneCell'=true:=by rw[hnv];rfl
  have hNew:=Zks wr o;have hNd:=hNew.dec;have hx1:Ext w (wr.alloc (opO o)):=hx.alloc _;have hrow1:=hrow.alloc (opO o);have hB1:(wr.alloc (opO o)).cell? ⟨w.heap.size,0,none⟩=some (.slice (some ⟨g,p,none⟩) n C):=(((Yk wr).alloc (opO o)).cell (p:=⟨w.heap.size,0,none⟩) hBl).trans hB;have hBl1:w.heap.size<(wr.alloc (opO o)).heap.size:=by simp;omega
  obtain⟨la,lc,rfl⟩:=Wv hrow;have hlen:=So os i;clear hN hnv hA;by_cases hdec:o.dec = -1
  ·have hdq:(o.dec != -1)=false:=by simp[hdec]
   have Hnx:=Y8 (show F6 os (i+1)=F6 os i by rw[Iq,Zgq (by simp[Pm,Jk hoi,hdec])]);have Hoi:=Y8 hoi;clear hoi hdec;go_wp2_with (first|(refine Ua HA.o rfl ?_)|(refine K0 rfl rfl rfl hone ?_));go_roundw;case rel=>exact⟨i+1,by omega,by go_num,by rw[Hnx.o];exact hrow1,hx1,hB1,hBl1⟩
   simp[intOf];omega
  have hdq:(o.dec != -1)=true:=by simp[hdec]
  have Hnx:=Y8 (show F6 os (i+1)=F6 os i++[i] by rw[Iq,Zgn (by simp[Pm,Jk hoi,hdec])]);have Hoi:=Y8 hoi;clear hoi hdec;go_wp2_with (first|(refine Ua HA.o rfl ?_)|(refine K0 rfl rfl rfl hone ?_)|(at_builtin;refine wpList_append_own _ rfl _ _ 22 rfl (w.heap.size+1) 3 i0 _ 1 8 Zop hi0 hz0 hz1 hz2 rfl (by decide) _ _ _ rfl (hrow1.alloc _) ⟨wr.heap.size+1,0,none⟩ 1 1 [Zj9 i] rfl rfl ?c1 ?c2 ?c3 ?c4 ?c5 ?_;rotate_left 5;intro v' w3 hown' hg3 hnil3;go_frame));go_roundw;case rel =>
   refine⟨i+1,by omega,by go_num,?_,(hx1.alloc _).grown hg3 (fun k hk=>by have:=(hrow1.lt k hk).1;omega),?_,?_⟩
   ·rw[Hnx.o];simpa[Zj9]using hown'
   ·have hne:∀ k,(Value.slice la (F6 os i).length lc).ownBlock=some k→w.heap.size≠k:=fun k hk=>by have:=(hrow1.lt k hk).1;omega
    rw[Zfc (a:=⟨w.heap.size,0,none⟩) (hg3.block w.heap.size (by simp;omega) (fun e=>hne _ e.symm rfl))];exact(((Yk (wr.alloc (opO o))).alloc _).cell (p:=⟨w.heap.size,0,none⟩) hBl1).trans hB1
   have:=hg3.size;simp at this;omega
  case measure=>simp[intOf];omega
  case c1 =>
   intro j u hj;have:=cell_one_new (wr.alloc (opO o)) (Zj9 i) 3 j u hj;rw[show(wr.alloc (opO o)).heap.size=wr.heap.size+1 by simp]at this;exact this
  case c2=>simp[Value.oneCell',Zj9]
  case c3=>unfold maxLen;omega
  case c4=>omega
  case c5=>simp;omega
 have hd:decide ((i:Int)<(n:Int))=false:=by simp;omega
 obtain rfl:i=n:=by omega
 obtain⟨la,lc,rfl⟩:=Wv hrow;have hlen:=So os i;by_cases h0:(F6 os i).length=0
 ·have h1:Us os=[]:=by
   have:=Kb os;have hm:∀ j,j ∉ Us os:=fun j hj=>by
    have h2:=(this.mem j).1 hj;have h3:j∈F6 os i:=L8.2 ⟨by rw[← Hnn.o];exact Fy h2,h2⟩;rw[Zgb h0]at h3;simp at h3
   exact Zf3.2 hm
  have H1:=Y8 h1;have Hrow:=Y8 (Rd.of_own (S:=fun k=>w.heap.size≤k) hrow fun k hk=>by have:=(hrow.lt k hk).1;omega);have H0:=Y8 h0;rw[h0];clear h0 h1 hrow;go_wp2_with (go_at_call 66;refine(Zp1 _ _ _ _).mono ?_;rintro e w' ⟨rfl,rfl⟩);go_ret;refine⟨_,rfl,?_,hx⟩;have hr:=Hrow.o;rw[H0.o,Zgb H0.o]at hr;unfold Zx0;rw[H1.o];exact hr
 -- the row
 obtain⟨m,hm⟩:=gnX ((F6 os i).length);have hiN:0<i:=by omega
 haveI:Inhabited (Fin i):=⟨⟨0,hiN⟩⟩;have hlt:∀ j∈F6 os i,j<i:=fun j hj=>(L8.1 hj).1
 obtain⟨d0,hd0⟩:∃ d0:Array (Fin i),d0.toList.map (·.val)=F6 os i:=by
  refine⟨((F6 os i).attach.map fun x=>(⟨x.1,hlt x.1 x.2⟩:Fin i)).toArray,?_⟩;rw[List.toList_toArray,Zez];exact List.attach_map_subtype_val _
 have hsz:d0.size=m:=by rw[← hm,← hd0];simp
 rcases hrow.2 with⟨hv,hz⟩ | ⟨g,cap,cur,hv,hbase,hb,hnc,hcm,hcs,htk⟩
 ·exact absurd hz h0
 simp only[Yd]at hv;obtain⟨rfl,_,rfl⟩:=hv;have hcell:∀ j,j<d0.size→wr.cell? ⟨g,0+j,none⟩=some (Zs5 d0[j]!)∧wr.frozen? ⟨g,0+j,none⟩=false:=by
  intro j hj;have e1:cur[j]?=some (Zs5 d0[j]!):=by
   have h1:(cur.toList.take ((F6 os i).length*1))[j]?=some (Zs5 d0[j]!):=by
    rw[htk,Zn,← hd0,Zn,Array.getElem?_toList,Zda d0 j hj,Zgj hj];rfl
   rw[Yw,Zgn (by omega)]at h1;simpa using h1
  rw[Zg7];exact⟨(cell_of_row wr g j cur _ _ hb).trans e1,by simp[World.frozen?,hb]⟩
 have R:Row1 Zs5 wr g 0 d0:=⟨Zn3,hcell,(Zgk.1 hb).1⟩;have hBne:w.heap.size≠g:=by omega
 have ho2:=Ho.o.ext hx;have hcmp:CmpLays1 prog 67 #[.pointer (some ⟨w.heap.size,0,none⟩)] Zs5 (cfK fun j:Fin i=>Uy os j.val) g 0 m wr:=by
  intro q obs dk hdk x y;have hc:=Zkl (enc:=Zs5) (w0:=wr) (blk:=g) (off:=0) (d:=dk) (W:=sortWorld Zs5 wr g 0 q dk obs) ⟨q,obs,rfl⟩;obtain⟨a,ha⟩:=geX (l:=os) (i:=x.val) (by rw[Hnn.o];exact x.isLt);obtain⟨b,hb⟩:=geX (l:=os) (i:=y.val) (by rw[Hnn.o];exact y.isLt);have ho3:=ho2.chg hc (fun k hk e=>by omega);have hB3:=(hc.cell (p:=⟨w.heap.size,0,none⟩) hBl hBne).trans hB;have hB4:∀ N,os.length=N→(sortWorld Zs5 wr g 0 q dk obs).cell? ⟨w.heap.size,0,none⟩=some (.slice A N C)→(sortWorld Zs5 wr g 0 q dk obs).cell? ⟨w.heap.size,0,none⟩=some (.slice A os.length C):=fun N e h=>by rw[e];exact h
  have:=Zz8 w.heap.size x.val y.val A C os a b _ (hB4 _ Hnn.o hB3) ho3 ha hb;refine Zc1 this ?_;rintro e w' ⟨rfl,q',os',hw'⟩;refine⟨?_,q',os',hw'⟩;rw[← Jk ha,← Jk hb];rfl
 have hso:=Ob Zs5 (fun j:Fin i=>Uy os j.val) (fun j:Fin i=>j.val) m g 0 lc #[.pointer (some ⟨w.heap.size,0,none⟩)] d0 wr hcmp R hsz (by omega) (fun p q hpq hq=>by
  have hl:=Sq os i;rw[← hd0,Zco]at hl;have:=Zfz.1 hl p q (by simp;omega) (by simp;omega) hpq;rw[Zda d0 p (by omega),Zda d0 q (by omega)];simpa using this)
 have HS:=Y8 hso;have Hd0:=Y8 hd0;have Hm:=Y8 hm;have HC:=Y8 hcell;have HR:=Y8 R;rw[hm];clear hso hd0 hm hcell R hcmp hrow hb htk hlt;go_wp2_with fail;refine Zc1 HS.o ?_;rintro e w5 ⟨rfl,d,hSW,hds,hM⟩;have hres:=Zp2 (os:=os) (by rw[Hd0.o,Hnn.o]) hsz hM;have hch:=Zkl hSW;have hx5:Ext w w5:=hx.chg_new hch (fun k hk=>by omega);have hh:=hSW.holds HR.o.hblk HC.o (by omega);have Hres:=Y8 hres;have Hx5:=Y8 hx5;have Hh:=Y8 hh;have hsz5:=hch.size;clear hres hx5 hh hch hSW hM;go_wp2_with fail;go_ret;refine⟨_,rfl,?_,Hx5.o⟩;unfold Zx0;have hL:(Us os).length=m:=by rw[← Hres.o];simp[hds]
 rw[hL];refine⟨by simp[hL],_,_,rfl,by rw[← Hm.o];exact hnc,hcm,fun _=>⟨g,0,rfl,by omega,Zgp HR.o.hblk hsz5,fun j u hu=>?_⟩⟩;have hj:j<d.size:=by
  have:=(Zr.1 hu).1;simp at this;omega
 have:=(Hh.o j hj).1;rw[this,← hu,← Hres.o,Zez,Zn,Array.getElem?_toList,Zgj hj,Zda d j hj];rfl
end
