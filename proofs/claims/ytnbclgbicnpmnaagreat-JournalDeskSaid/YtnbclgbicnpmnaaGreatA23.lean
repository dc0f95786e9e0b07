/- Lemmas of this claim: RN, RO, Kw, Ka, Kg, Kh, Kd, Kx, Ku, Ks. Conditions: as named. -/
import Derived.Deep.RegionLaw
import Derived.Test.YtnbclgbicnpmnaaGreatA19
import Derived.Test.YtnbclgbicnpmnaaGreatA22
namespace Go.Proofs.YtnbclgbicnpmnaaGreat
open Go.RowKit Go.Sort Go.Proofs.Tryz
set_option maxHeartbeats 0
set_option maxRecDepth 100000
set_option linter.all false
def Mf(s:ByteArray):Nat→Int
 | 1=>if _h:0<s.size then wrap64 (s[0].toNat:Int)else 0
 | 2=>if _h:1<s.size then IntKind.i64.wrap (IntKind.i64.wrap (IntKind.i64.wrap (IntKind.i64.wrap (IntKind.i64.wrap (s[0].toNat:Int)-192)*64)+IntKind.i64.wrap (s[1].toNat:Int))-128)else 0
 | 3=>if _h:2<s.size then IntKind.i64.wrap (IntKind.i64.wrap (IntKind.i64.wrap (IntKind.i64.wrap (IntKind.i64.wrap (IntKind.i64.wrap (s[0].toNat:Int)-224)*4096)+IntKind.i64.wrap (IntKind.i64.wrap (IntKind.i64.wrap (s[1].toNat:Int)-128)*64))+IntKind.i64.wrap (s[2].toNat:Int))-128)else 0
 | 4=>if _h:3<s.size then IntKind.i64.wrap (IntKind.i64.wrap (IntKind.i64.wrap (IntKind.i64.wrap (IntKind.i64.wrap (IntKind.i64.wrap (IntKind.i64.wrap (s[0].toNat:Int)-240)*262144)+IntKind.i64.wrap (IntKind.i64.wrap (IntKind.i64.wrap (s[1].toNat:Int)-128)*4096))+IntKind.i64.wrap (IntKind.i64.wrap (IntKind.i64.wrap (s[2].toNat:Int)-128)*64))+IntKind.i64.wrap (s[3].toNat:Int))-128)else 0
 | _=>0
def Bp(s:ByteArray)(k:Nat):Bool:=(Zus (Mf s k)==(k:Int))&&((bs (u8L (Pr (Mf s k)))).toList==(s.extract 0 k).toList)
def Gl(s:ByteArray):Nat :=
 if 1≤s.size∧Bp s 1=true then 1 else if 2≤s.size∧Bp s 2=true then 2 else if 3≤s.size∧Bp s 3=true then 3 else if 4≤s.size∧Bp s 4=true then 4 else 0
theorem Bq(s:ByteArray)(k:Nat)(h1:1≤k)(h4:k≤4)(hs:k≤s.size)(hy:Bp s k=true)(hall:∀ j,1≤j→j<k→j≤s.size→Bp s j=false):Gl s=k:=by
 have hn:∀ j,1≤j→j<k→¬ (j≤s.size∧Bp s j=true):=fun j a b c=>by rw[hall j a b c.1]at c;exact absurd c.2 (by simp)
 unfold Gl;rcases(show k=1∨k=2∨k=3∨k=4 by omega)with rfl|rfl|rfl|rfl
 ·rw[Zgn ⟨hs,hy⟩]
 ·rw[Zgq (hn 1 (by omega) (by omega)),Zgn ⟨hs,hy⟩]
 ·rw[Zgq (hn 1 (by omega) (by omega)),Zgq (hn 2 (by omega) (by omega)),Zgn ⟨hs,hy⟩]
 rw[Zgq (hn 1 (by omega) (by omega)),Zgq (hn 2 (by omega) (by omega)),Zgq (hn 3 (by omega) (by omega)),Zgn ⟨hs,hy⟩]
theorem Zrs(s:ByteArray)(k:Nat)(h1:1≤k)(h5:k≤5)(hs:¬ (k≤4∧k≤s.size))(hall:∀ j,1≤j→j<k→j≤s.size→Bp s j=false):Gl s=0:=by
 have hn:∀ j,1≤j→j≤4→¬ (j≤s.size∧Bp s j=true):=fun j a b c=>by
  by_cases hj:j<k
  ·rw[hall j a hj c.1]at c;exact absurd c.2 (by simp)
  omega
 unfold Gl;rw[Zgq (hn 1 (by omega) (by omega)),Zgq (hn 2 (by omega) (by omega)),Zgq (hn 3 (by omega) (by omega)),Zgq (hn 4 (by omega) (by omega))]
theorem Zrt(s:ByteArray):Gl s≤s.size:=by
 unfold Gl;split
 ·omega
 split
 ·omega
 split
 ·omega
 split<;>omega
def Rw(s:ByteArray):Int:=Mf s (Gl s)
theorem first_any(s:ByteArray)(hs:s.size≤maxLen)(w:World):Calls prog 246 #[.string s] w fun e w'=>e=.returned (.tuple #[.int .i64 (Rw s),.int .i64 (Gl s:Int)])∧Ext w w':=by
 unfold Rw;unfold maxLen at hs;go_enter func246,ntmps246;go_wp2_with fail;go_loopw [4] (fun o wr=>∃ k:Nat,1≤k∧k≤5∧o=.int .i64 (k:Int)∧Aside (∀ j,1≤j→j<k→j≤s.size→Bp s j=false)∧Ext w wr) (fun o _=>5-(intOf o).toNat);case atStart=>exact⟨1,by omega,by omega,rfl,fun j h1 h2 _=>by omega,Yk _⟩
 obtain⟨k,hk1,hk5,rfl,hall,hx⟩:=hrel;have Hall:=Zfy hall.out;have Hx:=Zfy hx;clear hx hall;by_cases hlt:k≤4∧k≤s.size
 ·obtain⟨h4,hsz⟩:=hlt;have d1:decide ((k:Int)≤(4:Int))=true:=Ye;have d2:decide ((k:Int)≤(s.size:Int))=true:=Ye;rcases(show k=1∨k=2∨k=3∨k=4 by omega)with rfl|rfl|rfl|rfl
  ·have p0:0<s.size:=by omega
   go_wp2_with fail;obtain⟨V,hV⟩:∃ V:Int,Mf s 1=V:=⟨_,rfl⟩;rw[show wrap64 (s[0].toNat:Int)=V from by rw[← hV];simp only[Mf];rw[Zc5 p0]];have HV:=Zfy hV;clear hV;cases q1:(Zus V==(1:Int))
   ·have Hno:=Zfy (show Bp s 1=false by unfold Bp;rw[HV.out,show((1:Nat):Int)=(1:Int) from rfl,q1];rfl);have hun:=Ya;refine wreX ?_;repeat(refine(Yu ?_:);intro K hK;go_simp;first|(refine hK _ ?_;clear hK K)|(apply Exists.intro;refine⟨fun _=>?_,hK _ ?_⟩;(first|(go_at_call 186;exact Xq (len_any _ _))|(go_at_call 166;exact Xx (one_any _ _)));clear hK K))
    refine Yt ?_;intro w3 hy3;clear hun;try simp only[Yb]
    have hx:=Hx.out;go_wp2_with fail;refine⟨⟨1+1,by omega,by omega,rfl,fun j h1 h2 h3=>?_,xE⟩,by simp[intOf]⟩;rcases(show j<1∨j=1 by omega)with h|rfl
    ·exact Hall.out j h1 h h3
    exact Hno.out
   cases q2:((bs (u8L (Pr V))).toList==(s.extract 0 1).toList)
   ·have Hno:=Zfy (show Bp s 1=false by unfold Bp;rw[HV.out,q2];simp);have hun:=Ya;refine wreX ?_;repeat(refine(Yu ?_:);intro K hK;go_simp;first|(refine hK _ ?_;clear hK K)|(apply Exists.intro;refine⟨fun _=>?_,hK _ ?_⟩;(first|(go_at_call 186;exact Xq (len_any _ _))|(go_at_call 166;exact Xx (one_any _ _)));clear hK K))
    refine Yt ?_;intro w3 hy3;clear hun;try simp only[Yb]
    have hx:=Hx.out;go_wp2_with fail;refine⟨⟨1+1,by omega,by omega,rfl,fun j h1 h2 h3=>?_,xE⟩,by simp[intOf]⟩;rcases(show j<1∨j=1 by omega)with h|rfl
    ·exact Hall.out j h1 h h3
    exact Hno.out
   have Hyes:=Zfy (show Bp s 1=true by unfold Bp;rw[HV.out,q2];simp at q1⊢;exact q1);have hun:=Ya;refine wreX ?_;repeat(refine(Yu ?_:);intro K hK;go_simp;first|(refine hK _ ?_;clear hK K)|(apply Exists.intro;refine⟨fun _=>?_,hK _ ?_⟩;(first|(go_at_call 186;exact Xq (len_any _ _))|(go_at_call 166;exact Xx (one_any _ _)));clear hK K))
   refine Yt ?_;intro w3 hy3;clear hun;try simp only[Yb]
   have hx:=Hx.out;go_wp2_with fail;go_ret2;exact⟨by rw[Bq s 1 (by omega) (by omega) hsz Hyes.out Hall.out,HV.out];rfl,xE⟩
  ·have p0:0<s.size:=by omega
   have p1:1<s.size:=by omega
   have r1:(1:Int)<(s.size:Int):=by omega
   have hun:=Ya;go_wp2_with fail;refine wreX ?_;repeat(refine(Yu ?_:);intro K hK;go_simp;first|(refine hK _ ?_;clear hK K)|(apply Exists.intro;refine⟨fun _=>?_,hK _ ?_⟩;(first|(go_at_call 186;exact Xq (len_any _ _))|(go_at_call 166;exact Xx (one_any _ _)));clear hK K))
   refine Yt ?_;intro w2 hy;clear hun;try simp only[Yb]
   go_wp2_with fail;obtain⟨V,hV⟩:∃ V:Int,Mf s 2=V:=⟨_,rfl⟩;rw[show IntKind.i64.wrap (IntKind.i64.wrap (IntKind.i64.wrap (IntKind.i64.wrap (IntKind.i64.wrap (s[0].toNat:Int)-192)*64)+IntKind.i64.wrap (s[1].toNat:Int))-128)=V from by rw[← hV];simp only[Mf];rw[Zc5 p1]];have HV:=Zfy hV;clear hV;cases q1:(Zus V==(2:Int))
   ·have Hno:=Zfy (show Bp s 2=false by unfold Bp;rw[HV.out,show((2:Nat):Int)=(2:Int) from rfl,q1];rfl);have hun:=Ya;refine wreX ?_;repeat(refine(Yu ?_:);intro K hK;go_simp;first|(refine hK _ ?_;clear hK K)|(apply Exists.intro;refine⟨fun _=>?_,hK _ ?_⟩;(first|(go_at_call 186;exact Xq (len_any _ _))|(go_at_call 166;exact Xx (one_any _ _)));clear hK K))
    refine Yt ?_;intro w3 hy3;clear hun;try simp only[Yb]
    have hx:=Hx.out;go_wp2_with fail;refine⟨⟨2+1,by omega,by omega,rfl,fun j h1 h2 h3=>?_,xE⟩,by simp[intOf]⟩;rcases(show j<2∨j=2 by omega)with h|rfl
    ·exact Hall.out j h1 h h3
    exact Hno.out
   cases q2:((bs (u8L (Pr V))).toList==(s.extract 0 2).toList)
   ·have Hno:=Zfy (show Bp s 2=false by unfold Bp;rw[HV.out,q2];simp);have hun:=Ya;refine wreX ?_;repeat(refine(Yu ?_:);intro K hK;go_simp;first|(refine hK _ ?_;clear hK K)|(apply Exists.intro;refine⟨fun _=>?_,hK _ ?_⟩;(first|(go_at_call 186;exact Xq (len_any _ _))|(go_at_call 166;exact Xx (one_any _ _)));clear hK K))
    refine Yt ?_;intro w3 hy3;clear hun;try simp only[Yb]
    have hx:=Hx.out;go_wp2_with fail;refine⟨⟨2+1,by omega,by omega,rfl,fun j h1 h2 h3=>?_,xE⟩,by simp[intOf]⟩;rcases(show j<2∨j=2 by omega)with h|rfl
    ·exact Hall.out j h1 h h3
    exact Hno.out
   have Hyes:=Zfy (show Bp s 2=true by unfold Bp;rw[HV.out,q2];simp at q1⊢;exact q1);have hun:=Ya;refine wreX ?_;repeat(refine(Yu ?_:);intro K hK;go_simp;first|(refine hK _ ?_;clear hK K)|(apply Exists.intro;refine⟨fun _=>?_,hK _ ?_⟩;(first|(go_at_call 186;exact Xq (len_any _ _))|(go_at_call 166;exact Xx (one_any _ _)));clear hK K))
   refine Yt ?_;intro w3 hy3;clear hun;try simp only[Yb]
   have hx:=Hx.out;go_wp2_with fail;go_ret2;exact⟨by rw[Bq s 2 (by omega) (by omega) hsz Hyes.out Hall.out,HV.out];rfl,xE⟩
  ·have p0:0<s.size:=by omega
   have p1:1<s.size:=by omega
   have r1:(1:Int)<(s.size:Int):=by omega
   have p2:2<s.size:=by omega
   have r2:(2:Int)<(s.size:Int):=by omega
   have hun:=Ya;go_wp2_with fail;refine wreX ?_;repeat(refine(Yu ?_:);intro K hK;go_simp;first|(refine hK _ ?_;clear hK K)|(apply Exists.intro;refine⟨fun _=>?_,hK _ ?_⟩;(first|(go_at_call 186;exact Xq (len_any _ _))|(go_at_call 166;exact Xx (one_any _ _)));clear hK K))
   refine Yt ?_;intro w2 hy;clear hun;try simp only[Yb]
   go_wp2_with fail;obtain⟨V,hV⟩:∃ V:Int,Mf s 3=V:=⟨_,rfl⟩;rw[show IntKind.i64.wrap (IntKind.i64.wrap (IntKind.i64.wrap (IntKind.i64.wrap (IntKind.i64.wrap (IntKind.i64.wrap (s[0].toNat:Int)-224)*4096)+IntKind.i64.wrap (IntKind.i64.wrap (IntKind.i64.wrap (s[1].toNat:Int)-128)*64))+IntKind.i64.wrap (s[2].toNat:Int))-128)=V from by rw[← hV];simp only[Mf];rw[Zc5 p2]];have HV:=Zfy hV;clear hV;cases q1:(Zus V==(3:Int))
   ·have Hno:=Zfy (show Bp s 3=false by unfold Bp;rw[HV.out,show((3:Nat):Int)=(3:Int) from rfl,q1];rfl);have hun:=Ya;refine wreX ?_;repeat(refine(Yu ?_:);intro K hK;go_simp;first|(refine hK _ ?_;clear hK K)|(apply Exists.intro;refine⟨fun _=>?_,hK _ ?_⟩;(first|(go_at_call 186;exact Xq (len_any _ _))|(go_at_call 166;exact Xx (one_any _ _)));clear hK K))
    refine Yt ?_;intro w3 hy3;clear hun;try simp only[Yb]
    have hx:=Hx.out;go_wp2_with fail;refine⟨⟨3+1,by omega,by omega,rfl,fun j h1 h2 h3=>?_,xE⟩,by simp[intOf]⟩;rcases(show j<3∨j=3 by omega)with h|rfl
    ·exact Hall.out j h1 h h3
    exact Hno.out
   cases q2:((bs (u8L (Pr V))).toList==(s.extract 0 3).toList)
   ·have Hno:=Zfy (show Bp s 3=false by unfold Bp;rw[HV.out,q2];simp);have hun:=Ya;refine wreX ?_;repeat(refine(Yu ?_:);intro K hK;go_simp;first|(refine hK _ ?_;clear hK K)|(apply Exists.intro;refine⟨fun _=>?_,hK _ ?_⟩;(first|(go_at_call 186;exact Xq (len_any _ _))|(go_at_call 166;exact Xx (one_any _ _)));clear hK K))
    refine Yt ?_;intro w3 hy3;clear hun;try simp only[Yb]
    have hx:=Hx.out;go_wp2_with fail;refine⟨⟨3+1,by omega,by omega,rfl,fun j h1 h2 h3=>?_,xE⟩,by simp[intOf]⟩;rcases(show j<3∨j=3 by omega)with h|rfl
    ·exact Hall.out j h1 h h3
    exact Hno.out
   have Hyes:=Zfy (show Bp s 3=true by unfold Bp;rw[HV.out,q2];simp at q1⊢;exact q1);have hun:=Ya;refine wreX ?_;repeat(refine(Yu ?_:);intro K hK;go_simp;first|(refine hK _ ?_;clear hK K)|(apply Exists.intro;refine⟨fun _=>?_,hK _ ?_⟩;(first|(go_at_call 186;exact Xq (len_any _ _))|(go_at_call 166;exact Xx (one_any _ _)));clear hK K))
   refine Yt ?_;intro w3 hy3;clear hun;try simp only[Yb]
   have hx:=Hx.out;go_wp2_with fail;go_ret2;exact⟨by rw[Bq s 3 (by omega) (by omega) hsz Hyes.out Hall.out,HV.out];rfl,xE⟩
  have p0:0<s.size:=by omega
  have p1:1<s.size:=by omega
  have r1:(1:Int)<(s.size:Int):=by omega
  have p2:2<s.size:=by omega
  have r2:(2:Int)<(s.size:Int):=by omega
  have p3:3<s.size:=by omega
  have r3:(3:Int)<(s.size:Int):=by omega
  have hun:=Ya;go_wp2_with fail;refine wreX ?_;repeat(refine(Yu ?_:);intro K hK;go_simp;first|(refine hK _ ?_;clear hK K)|(apply Exists.intro;refine⟨fun _=>?_,hK _ ?_⟩;(first|(go_at_call 186;exact Xq (len_any _ _))|(go_at_call 166;exact Xx (one_any _ _)));clear hK K))
  refine Yt ?_;intro w2 hy;clear hun;try simp only[Yb]
  go_wp2_with fail;obtain⟨V,hV⟩:∃ V:Int,Mf s 4=V:=⟨_,rfl⟩;rw[show IntKind.i64.wrap (IntKind.i64.wrap (IntKind.i64.wrap (IntKind.i64.wrap (IntKind.i64.wrap (IntKind.i64.wrap (IntKind.i64.wrap (s[0].toNat:Int)-240)*262144)+IntKind.i64.wrap (IntKind.i64.wrap (IntKind.i64.wrap (s[1].toNat:Int)-128)*4096))+IntKind.i64.wrap (IntKind.i64.wrap (IntKind.i64.wrap (s[2].toNat:Int)-128)*64))+IntKind.i64.wrap (s[3].toNat:Int))-128)=V from by rw[← hV];simp only[Mf];rw[Zc5 p3]];have HV:=Zfy hV;clear hV;cases q1:(Zus V==(4:Int))
  ·have Hno:=Zfy (show Bp s 4=false by unfold Bp;rw[HV.out,show((4:Nat):Int)=(4:Int) from rfl,q1];rfl);have hun:=Ya;refine wreX ?_;repeat(refine(Yu ?_:);intro K hK;go_simp;first|(refine hK _ ?_;clear hK K)|(apply Exists.intro;refine⟨fun _=>?_,hK _ ?_⟩;(first|(go_at_call 186;exact Xq (len_any _ _))|(go_at_call 166;exact Xx (one_any _ _)));clear hK K))
   refine Yt ?_;intro w3 hy3;clear hun;try simp only[Yb]
   have hx:=Hx.out;go_wp2_with fail;refine⟨⟨4+1,by omega,by omega,rfl,fun j h1 h2 h3=>?_,xE⟩,by simp[intOf]⟩;rcases(show j<4∨j=4 by omega)with h|rfl
   ·exact Hall.out j h1 h h3
   exact Hno.out
  cases q2:((bs (u8L (Pr V))).toList==(s.extract 0 4).toList)
  ·have Hno:=Zfy (show Bp s 4=false by unfold Bp;rw[HV.out,q2];simp);have hun:=Ya;refine wreX ?_;repeat(refine(Yu ?_:);intro K hK;go_simp;first|(refine hK _ ?_;clear hK K)|(apply Exists.intro;refine⟨fun _=>?_,hK _ ?_⟩;(first|(go_at_call 186;exact Xq (len_any _ _))|(go_at_call 166;exact Xx (one_any _ _)));clear hK K))
   refine Yt ?_;intro w3 hy3;clear hun;try simp only[Yb]
   have hx:=Hx.out;go_wp2_with fail;refine⟨⟨4+1,by omega,by omega,rfl,fun j h1 h2 h3=>?_,xE⟩,by simp[intOf]⟩;rcases(show j<4∨j=4 by omega)with h|rfl
   ·exact Hall.out j h1 h h3
   exact Hno.out
  have Hyes:=Zfy (show Bp s 4=true by unfold Bp;rw[HV.out,q2];simp at q1⊢;exact q1);have hun:=Ya;refine wreX ?_;repeat(refine(Yu ?_:);intro K hK;go_simp;first|(refine hK _ ?_;clear hK K)|(apply Exists.intro;refine⟨fun _=>?_,hK _ ?_⟩;(first|(go_at_call 186;exact Xq (len_any _ _))|(go_at_call 166;exact Xx (one_any _ _)));clear hK K))
  refine Yt ?_;intro w3 hy3;clear hun;try simp only[Yb]
  have hx:=Hx.out;go_wp2_with fail;go_ret2;exact⟨by rw[Bq s 4 (by omega) (by omega) hsz Hyes.out Hall.out,HV.out];rfl,xE⟩
 have hfin:=Zfy (Zrs s k hk1 hk5 hlt Hall.out);by_cases h4:k≤4
 ·have d1:decide ((k:Int)≤(4:Int))=true:=Ye;have d2:decide ((k:Int)≤(s.size:Int))=false:=Yf;have hx:=Hx.out;go_wp2_with fail;go_ret2;exact⟨by rw[hfin.out];rfl,xE⟩
 have d1:decide ((k:Int)≤(4:Int))=false:=Yf;have hx:=Hx.out;go_wp2_with fail;go_ret2;exact⟨by rw[hfin.out];rfl,xE⟩
def Zjj(s:ByteArray):Nat→List Int→Nat→List Int×Nat
 | 0,acc,p=>(acc,p)
 | f+1,acc,p=>if p<s.size∧0<Gl (s.extract p s.size)then Zjj s f (acc++[Rw (s.extract p s.size)]) (p+Gl (s.extract p s.size))else(acc,p)
def dec(s:ByteArray):List Int×Nat:=Zjj s (s.size+1) [] 0
theorem ext_size(s:ByteArray){p:Nat}(_:p≤s.size):(s.extract p s.size).size=s.size-p:=by simp
def Zkb(s:ByteArray)(w:World)(e:Ending)(w':World):Prop:=∃ v,e=.returned (.tuple #[v,.int .i64 ((dec s).2:Int)])∧RdE Ww w' (fun k=>w.heap.size≤k) v (dec s).1∧(dec s).1.length≤4096∧(dec s).2≤s.size∧Ext w w'
theorem decode_any(s:ByteArray)(hs:s.size≤4096)(w:World):Calls prog 224 #[.string s] w (Zkb s w):=by
 go_enter func224,ntmps224;go_wp2_with fail;go_loopw [5,4] (fun o v wr=>∃ (f p:Nat) (l:List Int),o=.int .i64 (p:Int)∧Aside (dec s=Zjj s f l p)∧s.size+1≤f+p∧p≤s.size∧l.length≤p∧Own Ww wr w.heap.size v l∧Ext w wr) (fun o _ _=>s.size-(intOf o).toNat);case atStart=>exact⟨s.size+1,0,[],rfl,rfl,by omega,by omega,by simp,Own.nil _ _ _,Yk _⟩
 obtain⟨f,p,l,rfl,he,hf,hp,hl,ho,hx⟩:=hrel;have He:=Zfy he.out;have Ho:=Zfy ho;have Hx:=Zfy hx;obtain⟨A,C,rfl,hlc,hC⟩:=ho.shape;obtain⟨n,hn⟩:=gnX (l.length);rw[hn]at hl hlc⊢;have Hn:=Zfy hn;unfold maxLen at hC;clear he ho hx hn;obtain⟨f',rfl⟩:∃ g,f=g+1:=⟨f-1,by omega⟩;by_cases hlt:p<s.size
 ·have d1:decide ((p:Int)<(s.size:Int))=true:=Ye;have d2:decide (p<s.size)=true:=Ye hlt;have i0:(0:Int)≤(p:Int):=by omega
  have i1:(p:Int)≤(s.size:Int):=by omega
  have hle:=Zrt (s.extract p s.size);rw[ext_size s hp]at hle;obtain⟨N,hN⟩:=gnX (Gl (s.extract p s.size));rw[hN]at hle;have HN:=Zfy hN;have hes:=ext_size s hp;have Hes:=Zfy hes;clear hN hes;by_cases h0:N=0
  ·have Hd:=Zfy (show dec s=(l,p) by rw[He.out,Zjj,Zgq (by rw[HN.out,h0];simp)]);have q1:((N:Int)==0)=true:=by simp;omega
   have q2:(N==0)=true:=by simp;omega
   have q3:decide (N=0)=true:=Ye h0;clear h0;go_wp2_with (go_at_call 246;refine(first_any _ (by rw[Hes.out];unfold maxLen;omega) _).mono ?_;rintro e w1 ⟨rfl,hx1⟩;rw[HN.out]);go_ret2;refine⟨.slice A n C,?_,?_,?_,?_,Hx.out.trans hx1⟩
   ·rw[Hd.out];rfl
   ·rw[Hd.out,← Hn.out];exact(Ho.out.ext hx1).rd
   ·rw[Hd.out];show l.length≤4096;rw[Hn.out];omega
   rw[Hd.out];exact hp
  have q1:((N:Int)==0)=false:=by simp;omega
  have q2:(N==0)=false:=by simp;omega
  have q3:decide (N=0)=false:=Yf h0;go_wp2_with (first|(go_at_call 246;refine(first_any _ (by rw[Hes.out];unfold maxLen;omega) _).mono ?_;rintro e w1 ⟨rfl,hx1⟩;rw[HN.out])|(at_builtin;refine Xt Ww _ _ _ rfl rfl rfl rfl (by rw[← Hn.out];exact(Ho.out.ext hx1).ext ((Yk _).alloc _)) rfl (Ws w1 (Rw (s.extract p s.size)) _ _ rfl) (by rw[Hn.out];simp;omega) (by show 8≤1000;omega) (by have:=Zgo Hx.out.size hx1.size;simp;omega) ?_;intro A3 n3 c3 w3 hg));have Hd:=Zfy (show dec s=Zjj s f' (l++[Rw (s.extract p s.size)]) (p+N) by rw[He.out,Zjj,Zgn ⟨hlt,by rw[HN.out];omega⟩,HN.out]);have Hg:=Zfy hg;have Hx3:=Zfy (hg.ext w ((Hx.out.trans hx1).alloc _) (Ym _));clear hg;go_wp2_with fail;go_roundw;case rel =>
   refine⟨f',p+N,l++[Rw (s.extract p s.size)],by go_num,Hd.out,by omega,by omega,?_,Hg.out.own,Hx3.out⟩;rw[Zs,Hn.out];simp;omega
  case measure=>simp[intOf];omega
 have d1:decide ((p:Int)<(s.size:Int))=false:=Yf;have d2:decide (p<s.size)=false:=Yf hlt;have Hd:=Zfy (show dec s=(l,p) by rw[He.out,Zjj,Zgq (fun h=>hlt h.1)]);go_wp2_with fail;go_ret2;refine⟨.slice A n C,?_,?_,?_,?_,Hx.out⟩
 ·rw[Hd.out];rfl
 ·rw[Hd.out,← Hn.out];exact Ho.out.rd
 ·rw[Hd.out];show l.length≤4096;rw[Hn.out];omega
 rw[Hd.out];exact hp
def Zvu(s:ByteArray)(w:World)(e:Ending)(w':World):Prop :=
 ∃ v l,∃ p x:Int,e=.returned (.tuple #[v,.int .i64 p,.int .i64 x])∧RdE Ww w' (fun k=>w.heap.size≤k) v l∧l.length≤4096∧(x=0→l=(dec s).1)∧Ext w w'
theorem Zko{w:World}{S:Nat→Prop}:RdE Ww w S (.slice none 0 0) []:=Xw.nil w S
theorem Zyv(s:ByteArray)(w:World):Calls prog 208 #[.string s] w (Zvu s w):=by
 go_enter func208,ntmps208;by_cases hbig:4096<s.size
 ·have d1:decide ((4096:Int)<(s.size:Int))=true:=Ye;go_wp2_with fail;go_ret3;exact⟨_,[],_,_,rfl,Zko,by simp,fun h=>absurd h (by decide),Yk _⟩
 have d1:decide ((4096:Int)<(s.size:Int))=false:=Yf;by_cases hp:(dec s).2<s.size
 ·have d2:decide (((dec s).2:Int)<(s.size:Int))=true:=Ye;have d3:decide ((dec s).2<s.size)=true:=Ye hp;go_wp2_with (go_at_call 224;refine(decode_any _ (by omega) _).mono ?_;rintro e w1 ⟨v,rfl,hv,hl,_,hx1⟩);go_ret3;exact⟨_,[],_,_,rfl,Zko,by simp,fun h=>absurd h (by decide),hx1⟩
 have d2:decide (((dec s).2:Int)<(s.size:Int))=false:=Yf;have d3:decide ((dec s).2<s.size)=false:=Yf hp;go_wp2_with (go_at_call 224;refine(decode_any _ (by omega) _).mono ?_;rintro e w1 ⟨v,rfl,hv,hl,_,hx1⟩);go_ret3;exact⟨_,_,_,_,rfl,hv,hl,fun _=>rfl,hx1⟩
def Zvs(n:Nat)(w:World)(e:Ending)(w':World):Prop:=∃ (t:ByteArray) (x:Int),e=.returned (.tuple #[.string t,.int .i64 x])∧t.size≤4*n∧Ext w w'
theorem Fx{S:Nat→Prop}(v:Value)(l:List Int)(w:World)(h:Xw w S v l):Calls prog 126 #[v] w (Zvs l.length w):=by
 obtain⟨A,C,rfl,hlCC,hCC⟩:=h.shape;obtain⟨n,hnn⟩:=gnX ((l).length);have Hnn:=Zfy hnn;have Hh:=Zfy h;unfold maxLen at hCC;rw[hnn]at hlCC⊢;clear h hnn;go_enter func126,ntmps126;by_cases hbig:4096<n
 ·have hb:decide ((4096:Int)<(n:Int))=true:=Ye;go_wp2_with fail;go_ret2;exact⟨⟨#[]⟩,_,rfl,Zgf _,Yk _⟩
 have hb:decide ((4096:Int)<(n:Int))=false:=Yf;go_wp2_with fail;go_loopw [12,4] (fun o y wr=>∃ (i:Nat) (t:ByteArray),i≤n∧o=.int .i64 (i:Int)∧y=.string t∧t.size≤4*i∧Ext w wr) (fun o _ _=>n-(intOf o).toNat);case atStart=>exact⟨0,⟨#[]⟩,by omega,rfl,rfl,Zgf _,Yk _⟩
 obtain⟨i,t,hi,rfl,rfl,ht,hx⟩:=hrel;have Hx:=Zfy hx;clear hx;by_cases hlt:i<n
 ·obtain⟨hd_i,i0_i,i1_i⟩:=LTl i n;obtain⟨x,hs_x⟩:=geX (l:=(l)) (i:=i) (by have:=Hnn.out;omega);obtain⟨g_x,o_x,c_x,hvv,_,_,_,hgl_x,a0_x⟩:=(Hh.out.ext Hx.out).get hs_x;obtain⟨rfl,-,rfl⟩:=slcX hvv;clear hvv;have Hs_x:=Zfy hs_x;clear hs_x;have h4:(bs (u8L (Pr x))).size≤4:=by rw[Js];simp only[u8L,Zq];exact Zm5 x
  have hz:¬ 9223372036854775807<t.size+(bs (u8L (Pr x))).size:=by omega
  go_wp2_with (first|(go_at_call 143;refine(Kq _ _).mono ?_;rintro e w' ⟨rfl,rfl⟩)|(go_at_call 166;refine(one_any _ _).mono ?_;rintro e w1 ⟨rfl,hx1⟩));all_goals
   have hx:=Hx.out
   first
   | (go_roundw
      case rel =>
       refine⟨i+1,_,by omega,by go_num,rfl,?_,xE⟩;rw[Yl];omega
      case measure=>(simp[intOf];omega))
   | (go_ret2;exact⟨⟨#[]⟩,_,rfl,Zgf _,xE⟩)
 have hd_i:=GEl i n;have hx:=Hx.out;go_wp2_with fail;go_ret2;exact⟨t,_,rfl,by omega,xE⟩
structure Vv(B b:Nat)(w w':World):Prop where
 src:Src B w' b
 chg:Chg (· = b) w w'
theorem Vv.start{B b:Nat}{w:World}(h:Src B w b):Vv B b w w:=⟨h,Chg.refl _ _⟩
theorem Vv.ext{B b:Nat}{w w1 w2:World}(h:Vv B b w w1)(x:Ext w1 w2):Vv B b w w2:=⟨h.src.ext x,h.chg.trans (x.chg _)⟩
theorem Vv.alloc{B b:Nat}{w w1:World}(h:Vv B b w w1)(o:Obj):Vv B b w (w1.alloc o):=h.ext ((Yk _).alloc o)
theorem Vv.drew{B b:Nat}{w w1:World}(h:Vv B b w w1):Vv B b w w1.drew:=h.ext (Yk _).drew
theorem Vv.trans{B b:Nat}{w w1 w2:World}(h:Vv B b w w1)(k:Vv B b w1 w2):Vv B b w w2:=⟨k.src,h.chg.trans k.chg⟩
theorem Vv.setCell{B b:Nat}{w w1:World}(h:Vv B b w w1){p:Addr}(hp:w.heap.size≤p.block)(hb:p.block≠b)(hB:B≤p.block)(u:Value):Vv B b w (w1.setCell p u):=⟨h.src.setCell hB hb u,h.chg.setCell (.inr hp) u⟩
def Zhw(B b:Nat)(n:Int)(w0 w:World)(e:Ending)(w':World):Prop:=∃ v:Nat,(v:Int)<n∧e=.returned (.int .i64 (v:Int))∧Vv B b w w'
theorem Xc(b:Nat)(n:Int)(h1:1≤n)(h2:n≤9223372036854775807)(w:World)(B:Nat)(hs:Src B w b):Calls prog 42 #[.pointer (some ⟨b,0,none⟩),.int .i64 n] w (Zhw B b n w w) :=
 (next_any b n h1 h2 w B hs).mono fun e w' h=>by
   obtain⟨v,hv,e1,h2,h3,_⟩:=h;exact⟨v,hv,e1,h2,h3⟩
theorem Zw7(w:World)(t:TypeId)(zs:List ByteArray)(n:Nat)(hn:zs.length=n)(cs:Array Value)(hcs:cs=(zs.map Value.string).toArray)(h18:n≤1000):RdE Vm (w.alloc (.cells cs t)) (fun k=>w.heap.size≤k) (.slice (some ⟨w.heap.size,0,none⟩) n n) zs:=by
 subst hn hcs;have h1:(w.alloc (.cells (zs.map Value.string).toArray t)).heap[w.heap.size]?=some (.cells (zs.map Value.string).toArray t):=Zg3 w _;show Rd _ _ 1 _ _ (zs.map Value.string);refine⟨by simp,_,_,rfl,Ym _,by unfold maxLen;omega,fun _=>⟨_,_,rfl,Ym _,(Zgk.1 h1).1,fun j u hu=>?_⟩⟩;simp only[World.cell?,h1];rw[Zg7,← hu];simp
def Znl(B b:Nat)(w:World)(e:Ending)(w':World):Prop:=∃ c:Int,e=.returned (.int .i64 c)∧Vv B b w w'
theorem Zqy(B b:Nat)(w:World)(hs:Src B w b):Calls prog 127 #[.pointer (some ⟨b,0,none⟩)] w (Znl B b w):=by
 have Hs:=Y8 (Vv.start hs);have hbl:=hs.lt;clear hs;go_enter func127,ntmps127;go_wp2_with fail;refine(Xc b 2 (by omega) (by omega) _ B Hs.o.src).mono ?_;rintro e w1 ⟨v,hv,rfl,h1⟩;have H1:=Y8 (Hs.o.trans h1);have hb1:=h1.src.lt;clear h1;by_cases hv0:v=0
 ·subst hv0;go_wp2_with fail;refine(Xc b 9 (by omega) (by omega) _ B H1.o.src).mono ?_;rintro e w2 ⟨k,hk,rfl,h2⟩;have H2:=Y8 (H1.o.trans h2);have k0:(0:Int)≤(k:Int):=by omega
  have k1:k<9:=by omega
  go_wp2_with fail;go_ret;exact⟨_,rfl,H2.o⟩
 have e1:((v:Int)==0)=false:=by simp;omega
 have e2:(v==0)=false:=by simp;omega
 have e3:¬ (v:Int)=0:=by omega
 clear hv0;go_wp2_with fail;have hl:=Wl w1 3 [769,803,945,946,1072,1488,1576,1632,7680,7681,7682,19968,44032,8204,2381] 15 rfl _ rfl (by omega);have H3:=Y8 (H1.o.alloc (.cells #[.int .i64 769,.int .i64 803,.int .i64 945,.int .i64 946,.int .i64 1072,.int .i64 1488,.int .i64 1576,.int .i64 1632,.int .i64 7680,.int .i64 7681,.int .i64 7682,.int .i64 19968,.int .i64 44032,.int .i64 8204,.int .i64 2381] 3));refine(Xc b 15 (by omega) (by omega) _ B H3.o.src).mono ?_;rintro e w2 ⟨k,hk,rfl,h2⟩;have H4:=Y8 (H3.o.trans h2);have hl2:RdE Ww w2 (fun k=>w1.heap.size≤k) (.slice (some ⟨w1.heap.size,0,none⟩) 15 15) [769,803,945,946,1072,1488,1576,1632,7680,7681,7682,19968,44032,8204,2381]:=Rd.chg hl h2.chg (fun k hk e=>by omega);obtain⟨z,hz⟩:∃ z,([769,803,945,946,1072,1488,1576,1632,7680,7681,7682,19968,44032,8204,2381]:List Int)[k]?=some z:=⟨_,Zz (by simp;omega)⟩;obtain⟨g,o,c,hvv,_,_,_,hg,cz⟩:=Xw.get hl2 hz;simp only[Yd,Yc,Zga,Zg0,Zfw]at hvv;obtain⟨⟨rfl,rfl⟩,-,rfl⟩:=hvv;rw[Zg7]at cz;have k0:(0:Int)≤(k:Int):=by omega
 have k1:k<15:=by omega
 clear hz hl hl2 h2;go_wp2_with fail;go_ret;exact⟨_,rfl,H4.o⟩
def Ka:List Int:=[173,183,769,776,803,837,885,945,946,947,1072,1488,1523,1576,1577,1632,1776,2381,7680,7681,7682,7683,7684,8204,8205,12539,19968,128512]
def Znp(w:World)(e:Ending)(w':World):Prop:=∃ v,e=.returned v∧RdE Ww w' (fun k=>w.heap.size≤k) v Ka∧Ext w w'
theorem Zwe(w:World):Calls prog 43 #[] w (Znp w):=by
 go_enter func43,ntmps43;go_wp2_with fail;go_ret;exact⟨_,rfl,Wl w 3 Ka 28 rfl _ rfl (by omega),(Yk w).alloc _⟩
def Zke(l:List Int)(B b:Nat)(w:World)(e:Ending)(w':World):Prop:=∃ c:Int,c∈l∧e=.returned (.int .i64 c)∧Vv B b w w'
theorem J8{R:Nat→Prop}(B b:Nat)(v:Value)(l:List Int)(w:World)(hs:Src B w b)(hv:RdE Ww w R v l)(hR:¬ R b)(hl1:1≤l.length)(hl2:l.length≤1000):Calls prog 45 #[.pointer (some ⟨b,0,none⟩),v] w (Zke l B b w):=by
 obtain⟨A,C,rfl,hlC,hC⟩:=hv.shape;obtain⟨n,hn⟩:=gnX (l.length);have Hs:=Y8 (Vv.start hs);have HV:=Y8 hv;rw[hn]at hlC hl1 hl2⊢;have Hn:=Y8 hn;clear hs hv hn;go_enter func45,ntmps45;go_wp2_with fail;refine(Xc b 3 (by omega) (by omega) _ B Hs.o.src).mono ?_;rintro e w1 ⟨v,hv,rfl,h1⟩;have H1:=Y8 (Hs.o.trans h1);have HV1:=Y8 (Rd.chg HV.o h1.chg (fun k hk e=>hR (e▸hk)));clear h1;by_cases hv0:0<v
 ·have d1:decide ((0:Int)<(v:Int))=true:=Ye;obtain⟨z,hz⟩:=geX (l:=l) (i:=0) (by rw[Hn.o];omega);obtain⟨g,o,c,hvv,_,_,_,hg,cz⟩:=Xw.get (show Xw w1 R _ l from HV1.o) hz;have Hz:=Y8 hz;clear hz;rw[Hn.o]at hvv;obtain⟨rfl,-,rfl⟩:=slcX hvv;clear hvv;rw[Zfu]at cz;have n0:(0:Int)<(n:Int):=by omega
  have n1:0<n:=by omega
  go_wp2_with fail;go_ret;exact⟨_,Zy Hz.o,rfl,H1.o⟩
 have d1:decide ((0:Int)<(v:Int))=false:=Yf;go_wp2_with fail;refine(Xc b (n:Int) (by omega) (by omega) _ B H1.o.src).mono ?_;rintro e w2 ⟨q,hq,rfl,h2⟩;have H2:=Y8 (H1.o.trans h2);have hq2:q<n:=by omega
 obtain⟨z,hz⟩:=geX (l:=l) (i:=q) (by rw[Hn.o];omega);obtain⟨g,o,c,hvv,_,_,_,hg,cz⟩:=Xw.get (show Xw w2 R _ l from Rd.chg HV1.o h2.chg (fun k hk e=>hR (e▸hk))) hz;have Hz:=Y8 hz;clear hz;rw[Hn.o]at hvv;obtain⟨rfl,-,rfl⟩:=slcX hvv;clear hvv;have q0:(0:Int)≤(q:Int):=by omega
 go_wp2_with fail;go_ret;exact⟨_,Zy Hz.o,rfl,H2.o⟩
theorem Zkn(w:World)(a b c:Int)(t:TypeId)(g:Nat)(hg:w.heap.size=g):RdE spE (w.alloc (.cells #[.int .i64 a,.int .i64 b,.int .i64 c] t)) (fun _=>True) (.slice (some ⟨g,0,none⟩) 1 1) [⟨a,b,c⟩]:=by
 subst hg;exact Qh w #[.int .i64 a,.int .i64 b,.int .i64 c] t 3 rfl
theorem Bj{α:Type}{l:List α}{j:Nat}{x:α}(h:l[j]?=some x):l.set j x=l:=by
 obtain⟨h1,h2⟩:=Zr.1 h;rw[← h2];exact List.set_getElem_self h1
def Zkh(b j:Nat)(cs:List Value)(l0:List Sp)(x:Sp)(S:Nat→Prop)(w:World)(e:Ending)(w':World):Prop :=
 ∃ (u:Value) (l:List Sp),e=.returned (.tuple #[])∧Xm w' b (cs.set j u)∧Vh w' (fun k=>S k∨w.heap.size≤k) u l∧((0<x.val∧l=l0++[x])∨(¬ 0<x.val∧l=l0))∧Chg (· = b) w w'
theorem add_any{S:Nat→Prop}(b j:Nat)(cs:List Value)(u:Value)(l:List Sp)(fr to_ val z:Int)(w:World)(hb:Xm w b cs)(hj:cs[j]?=some u)(hu:Vh w S u l)(_:¬ S b)(hl:l.length≤100000) :
 Calls prog 46 #[.pointer (some ⟨b,j,none⟩),.agg #[.int .i64 fr,.int .i64 to_,.int .i64 val],.int .i64 z] w (Zkh b j cs l ⟨fr,to_,z⟩ S w):=by
 have HB:=Y8 hb;have HU:=Y8 hu;have Hj:=Y8 hj;have hjl:=(Zr.1 hj).1;clear hb hu hj;by_cases hz:0<z
 ·have d1:decide (0<z)=true:=Ye hz;go_enter func46,ntmps46;go_upto_region 3 with fail;have hx0:=(Yk w).alloc (.cells #[.int .i64 fr,.int .i64 to_,.int .i64 z] 99);have k0:(w.alloc (.cells #[.int .i64 fr,.int .i64 to_,.int .i64 z] 99)).cell? ⟨w.heap.size,0,none⟩=some (.int .i64 fr):=by go_simp
  have k1:(w.alloc (.cells #[.int .i64 fr,.int .i64 to_,.int .i64 z] 99)).cell? ⟨w.heap.size,1,none⟩=some (.int .i64 to_):=by go_simp
  have k2:(w.alloc (.cells #[.int .i64 fr,.int .i64 to_,.int .i64 z] 99)).cell? ⟨w.heap.size,2,none⟩=some (.int .i64 z):=by go_simp
  have hlt0:w.heap.size<(w.alloc (.cells #[.int .i64 fr,.int .i64 to_,.int .i64 z] 99)).heap.size:=by simp
  obtain⟨W0,hW0⟩:=gnX (w.alloc (.cells #[.int .i64 fr,.int .i64 to_,.int .i64 z] 99));rw[hW0]at hx0 k0 k1 k2 hlt0;rw[hW0];clear hW0;obtain⟨A,C,rfl,hlC,hC⟩:=HU.o.shape;obtain⟨n,hn⟩:=gnX (l.length);have HW:=Y8 (show Vh w S (.slice A n C) l by have:=HU.o;rwa [hn]at this);rw[hn]at Hj hl;have Hn:=Y8 hn;have hB0:=HB.o.ext hx0;have b0:W0.cell? ⟨b,j,none⟩=some (.slice A n C):=by rw[hB0.at_ j hjl];exact Hj.o
  have bf:=hB0.fz;have b0':(W0.alloc (.cells #[.int .i64 fr,.int .i64 to_,.int .i64 z] 99)).cell? ⟨b,j,none⟩=some (.slice A n C):=by rw[(hB0.ext ((Yk _).alloc _)).at_ j hjl];exact Hj.o
  have HX0:=Y8 hx0;have HB0:=Y8 hB0;clear hx0 hB0 HU hn;go_region_law (first
   | ((refine Wt spE (Operand.const (Value.slice none 0 0)) (.tmp 13) 31 (by rfl) (by rfl) (by rfl) (by rfl) (Own.nil spE _ W0.heap.size) (by rfl) (show RdE spE W0.drew S (.slice A n C) l from HW.o.ext HX0.o.drew) (by rw[Hn.o];show 0+n≤_;omega) (by show 24≤1000;omega) (by simp) ?_);intro A5 n5 c5 w5 hg5;have X5:=Y8 (hg5.ext w HX0.o.drew HX0.o.size);have B5:=Y8 (HB.o.ext X5.o);have X05:=Y8 (show Ext W0 w5 from hg5.ext W0 (Yk _).drew (Ym _));have G5:=Y8 hg5;have k0':=(X05.o.cell (p:=⟨w.heap.size,0,none⟩) hlt0).trans k0;have k1':=(X05.o.cell (p:=⟨w.heap.size,1,none⟩) hlt0).trans k1;have k2':=(X05.o.cell (p:=⟨w.heap.size,2,none⟩) hlt0).trans k2;clear hg5)
   | ((refine Wt spE (Operand.const (Value.slice none 0 0)) (.tmp 13) 31 (by rfl) (by rfl) (by rfl) (by rfl) (Own.nil spE _ W0.heap.size) (by rfl) (show RdE spE (W0.alloc (.cells #[.int .i64 fr,.int .i64 to_,.int .i64 z] 99)).drew S (.slice A n C) l from HW.o.ext (HX0.o.alloc _).drew) (by rw[Hn.o];show 0+n≤_;omega) (by show 24≤1000;omega) (by simp) ?_);intro A5 n5 c5 w5 hg5;have X5:=Y8 (hg5.ext w (HX0.o.alloc _).drew HX0.o.size);have B5:=Y8 (HB.o.ext X5.o);have s5:W0.heap.size≤w5.heap.size:=(by have:=hg5.chg.size;simp at this;omega);have L5:=Y8 (show RdE spE w5 (fun _=>True) (.slice (some ⟨W0.heap.size,0,none⟩) 1 1) [⟨fr,to_,z⟩] from Rd.chg (S:=fun _=>True) (RdE.ext (Zkn W0 fr to_ z 99 _ rfl) (Yk _).drew) hg5.chg (fun k _ e=>by cases e));have G5:=Y8 hg5;clear hg5)
   | ((refine Wt spE (.tmp 14) (.tmp 16) 31 (by rfl) (by rfl) (by rfl) (by rfl) (G5.o.own.ext ((Yk _).alloc _)) (by rfl) (Zkn w5 fr to_ z 99 _ rfl) (by rw[Zo,Hn.o];show n+1≤_;omega) (by show 24≤1000;omega) (by have:=X05.o.size;simp;omega) ?_);intro A6 n6 c6 w6 hg6;have X6:=Y8 (hg6.ext w (X5.o.alloc _) HX0.o.size);have B6:=Y8 (HB.o.ext X6.o);have G6:=Y8 hg6;have b6:=B6.o.at_ j hjl;have bf6:=B6.o.fz;rw[Hj.o]at b6;clear hg6)
   | ((refine Wt spE (.tmp 14) (.tmp 16) 31 (by rfl) (by rfl) (by rfl) (by rfl) G5.o.own (by rfl) L5.o (by rw[Zo,Hn.o];show n+1≤_;omega) (by show 24≤1000;omega) s5 ?_);intro A6 n6 c6 w6 hg6;have X6:=Y8 (hg6.ext w X5.o HX0.o.size);have B6:=Y8 (HB.o.ext X6.o);have G6:=Y8 hg6;have b6:=B6.o.at_ j hjl;have bf6:=B6.o.fz;rw[Hj.o]at b6;clear hg6))
  all_goals
   go_wp2_with fail;refine Ys (v:=.tuple #[]) (by simp[results,results46,go_sem]) rfl ⟨.slice A6 n6 c6,[]++l++[⟨fr,to_,z⟩],rfl,?_,?_,?_,?_⟩
   ·exact B6.o.set hjl _
   ·have h1:Vh w6 (fun k=>W0.heap.size≤k) (.slice A6 n6 c6) ([]++l++[⟨fr,to_,z⟩]):=G6.o.own.rd;have hbl:=HB.o.lt;have hws:=HX0.o.size;exact Rd.mono (Rd.chg h1 ((Chg.refl (· = b) w6).setCell (p:=⟨b,j,none⟩) (.inl rfl) _) (fun k hk e=>by omega)) fun k hk _=>.inr (by omega)
   ·exact .inl ⟨Zfp d1,by rw[Zo]⟩
   exact(X6.o.chg (· = b)).setCell (p:=⟨b,j,none⟩) (.inl rfl) _
 have d1:decide (0<z)=false:=Yf hz;go_enter func46,ntmps46;go_wp2_with fail;refine Ys (v:=.tuple #[]) (by simp[results,results46,go_sem]) rfl ⟨u,l,rfl,?_,?_,.inr ⟨Zfx d1,rfl⟩,(Chg.refl _ _).alloc _⟩
 ·rw[Bj Hj.o];exact HB.o.ext ((Yk _).alloc _)
 exact Rd.mono (HU.o.ext ((Yk _).alloc _)) fun k hk _=>.inl hk
structure SpP(l:List Sp)(q:Nat)(M:Int):Prop where
 sub:(l.map Sp.fr).Sublist (Ka.take q)
 one:∀ s∈l,s.to_=s.fr∧1≤s.val∧s.val≤M
theorem SpP.nil(q:Nat)(M:Int):SpP [] q M:=⟨by simp,by simp⟩
theorem SpP.up{l:List Sp}{q q':Nat}{M:Int}(h:SpP l q M)(hq:q≤q'):SpP l q' M:=⟨h.sub.trans (Ze4 hq),h.one⟩
theorem SpP.len{l:List Sp}{q:Nat}{M:Int}(h:SpP l q M):l.length≤q:=by
 have:=h.sub.length_le;rw[Zq,Zp]at this;omega
theorem SpP.snoc{l:List Sp}{q:Nat}{M c v:Int}(h:SpP l q M)(hc:Ka[q]?=some c)(h1:1≤v)(h2:v≤M):SpP (l++[⟨c,c,v⟩]) (q+1) M:=by
 refine⟨?_,fun s hs=>?_⟩
 ·rw[Yy,Wq hc];exact h.sub.append (Zdh _)
 rcases Zj.1 hs with hs|hs
 ·exact h.one s hs
 rw[Zi.1 hs];exact⟨rfl,h1,h2⟩
theorem SpP.add{l l':List Sp}{q:Nat}{M c v:Int}(h:SpP l q M)(hc:Ka[q]?=some c)(h2:v≤M)(ha:(0<v∧l'=l++[⟨c,c,v⟩])∨(¬ 0<v∧l'=l)):SpP l' (q+1) M:=by
 rcases ha with⟨h1,rfl⟩ | ⟨_,rfl⟩
 ·exact h.snoc hc (by omega) h2
 exact h.up (Zfg _)
def Zyx(k:Nat):List Int:=(List.range k).map fun i:Nat=>7680+(i:Int)
def ToP(to_:List Int)(fr:Int):Prop:=∃ x r,to_=x::r∧(x=97∨x=98∨(7680≤x∧x<fr))∧(r=[]∨∃ y,y∈([769,776,803,837,945]:List Int)∧r=[y])
theorem ToP.one_{l:List Int}{fr:Int}(h:∃ x,l=[x]∧(x=97∨x=98∨(7680≤x∧x<fr))):ToP l fr:=by
 obtain⟨x,rfl,h⟩:=h;exact⟨x,[],rfl,h,.inl rfl⟩
theorem ToP.two{l:List Int}{fr y:Int}(h:∃ x,l=[x]∧(x=97∨x=98∨(7680≤x∧x<fr)))(hy:y∈([769,776,803,837,945]:List Int)):ToP (l++[y]) fr:=by
 obtain⟨x,rfl,h⟩:=h;exact⟨x,[y],rfl,h,.inr ⟨y,hy,rfl⟩⟩
theorem Zic{dec:List MpS}{j:Nat}{m:MpS}{to3:List Int}{r:Bool}(hm:dec[j]?=some m)(h:∀ x∈dec.take j,x.1.to_≠to3)(hr:decide (m.1.to_=to3)=r)(h0:r=false):∀ x∈dec.take (j+1),x.1.to_≠to3:=by
 intro x hx;rw[Wq hm]at hx;rcases Zj.1 hx with hx|hx
 ·exact h x hx
 rw[Zi.1 hx];exact Zfx (hr.trans h0)
structure Aj(d:List Mp)(exc:List Int)(k:Nat):Prop where
 sub:(d.map Mp.fr).Sublist (Zyx k)
 xs:exc.Sublist (d.map Mp.fr)
 tos:∀ m∈d,ToP m.to_ m.fr
 tw:∀ (i j:Nat) a b,j<i→d[i]?=some a→d[j]?=some b→a.to_=b.to_→a.fr∈exc
theorem Aj.nil:Aj [] [] 0:=⟨by simp,by simp,by simp,fun i j a b _ h=>by simp at h⟩
theorem Zwy{k:Nat}:Zyx (k+1)=Zyx k++[7680+(k:Int)]:=by unfold Zyx;rw[Zdn,Yy];rfl
theorem Aj.up{d:List Mp}{exc:List Int}{k:Nat}(h:Aj d exc k):Aj d exc (k+1) :=
 ⟨by rw[Zwy];exact h.sub.trans (Zcm _ _),h.xs,h.tos,h.tw⟩
theorem Aj.len{d:List Mp}{exc:List Int}{k:Nat}(h:Aj d exc k):d.length≤k∧exc.length≤k:=by
 have h1:=h.sub.length_le;have h2:=h.xs.length_le;simp only[Zyx,Zq,Zdk]at h1 h2;omega
theorem Aj.more{d:List Mp}{exc:List Int}{k:Nat}{m:Mp}(h:Aj d exc k)(hf:m.fr=7680+(k:Int))(ht:ToP m.to_ m.fr){q:Bool}(hq:q=false→∀ x∈d,x.to_≠m.to_){exc':List Int}(he:exc'=if q then exc++[m.fr]else exc):Aj (d++[m]) exc' (k+1):=by
 refine⟨?_,?_,fun x hx=>?_,fun i j a b hji ha hb e=>?_⟩
 ·rw[Yy,Zwy];exact h.sub.append (by rw[← hf];exact Zdh _)
 ·rw[he,Yy];cases q with
  | true=>exact h.xs.append (Zdh _)
  | false=>exact h.xs.trans (Zcm _ _)
 ·rcases Zj.1 hx with hx|hx
  ·exact h.tos x hx
  rw[Zi.1 hx];exact ht
 have hsub:∀ z∈exc,z∈exc':=fun z hz=>by rw[he];cases q<;>simp[hz]
 have hil:=(Zr.1 ha).1;rw[Zs,Zfe]at hil;by_cases hi:i<d.length
 ·rw[Ze hi]at ha;rw[Ze (by omega)]at hb;exact hsub _ (h.tw i j a b hji ha hb e)
 obtain rfl:i=d.length:=by omega
 rw[Ze hji]at hb;rw[Zd (Ym _),Nat.sub_self]at ha;obtain rfl:m=a:=by simpa using ha
 cases q with
 | true=>rw[he];simp
 | false=>exact absurd e.symm (hq rfl b (Zy hb))
structure Zl6(m:List Mp)(sta:List Sp)(q:Nat):Prop where
 sp:SpP sta q 4
 fr:m.map Mp.fr=(sta.filter fun s=>s.val==3).map Sp.fr
 frs:∀ x∈m,x.fr∈([947,7684,128512]:List Int)
 tos:∀ x∈m,(∃ v:Int,97≤v∧v≤99∧(x.to_=[v]∨x.to_=[v,46]))
structure Zhx(m:List Mp)(sta:List Sp)(q:Nat)(c si:Int):Prop where
 sp:SpP sta q 4
 fr:m.map Mp.fr=(sta.filter fun s=>s.val==3).map Sp.fr++if si=3 then[c]else[]
 frs:∀ x∈m,x.fr∈([947,7684,128512]:List Int)
 tos:∀ x∈m,(∃ v:Int,97≤v∧v≤99∧(x.to_=[v]∨x.to_=[v,46]))
 si:si≤4
theorem Zl6.same{m:List Mp}{sta:List Sp}{q:Nat}(h:Zl6 m sta q)(c:Int){si:Int}(h1:si≤4)(h2:si≠3):Zhx m sta q c si:=⟨h.sp,by rw[Zgq h2,Zf4];exact h.fr,h.frs,h.tos,h1⟩
theorem Zl6.more{m:List Mp}{sta:List Sp}{q:Nat}(h:Zl6 m sta q)(x:Mp)(hf:x.fr∈([947,7684,128512]:List Int))(ht:∃ v:Int,97≤v∧v≤99∧(x.to_=[v]∨x.to_=[v,46])):Zhx (m++[x]) sta q x.fr 3:=by
 refine⟨h.sp,by rw[Zgn rfl,Yy,h.fr];rfl,fun y hy=>?_,fun y hy=>?_,by omega⟩
 ·rcases Zj.1 hy with hy|hy
  ·exact h.frs y hy
  rw[Zi.1 hy];exact hf
 rcases Zj.1 hy with hy|hy
 ·exact h.tos y hy
 rw[Zi.1 hy];exact ht
theorem Zhx.next{m:List Mp}{sta sta':List Sp}{q:Nat}{c si:Int}(h:Zhx m sta q c si)(hc:Ka[q]?=some c)(ha:(0<si∧sta'=sta++[⟨c,c,si⟩])∨(¬ 0<si∧sta'=sta)):Zl6 m sta' (q+1):=by
 refine⟨h.sp.add hc h.si ha,?_,h.frs,h.tos⟩;rw[h.fr];rcases ha with⟨h1,rfl⟩ | ⟨h1,rfl⟩
 ·rw[Ze1,Yy];by_cases h3:si=3
  ·subst h3;rw[Zgn rfl];rfl
  have hb:(si==3)=false:=by simp[h3]
  rw[Zgq h3];simp[List.filter,hb]
 rw[Zgq (by omega),Zf4]
def Lw:List (Int×List Int):=[(48,[111]),(109,[114,110]),(945,[97]),(1072,[97]),(1632,[111,803])]
structure Ztm(T:Tbl)(p:List Mp)(q:Nat):Prop where
 sub:(p.map fun m=>(m.fr,m.to_)).Sublist (Lw.take q)
 ign:∀ m∈p,(Wk T.ign m.fr==1)=false∧(Wk T.ign (m.to_.getLastD 0)==1)=false
theorem Ztm.nil(T:Tbl):Ztm T [] 0:=⟨by simp,by simp⟩
theorem Ztm.up{T:Tbl}{p:List Mp}{q:Nat}(h:Ztm T p q):Ztm T p (q+1):=⟨h.sub.trans (Ze4 (Zfg _)),h.ign⟩
theorem Ztm.more{T:Tbl}{p:List Mp}{q:Nat}{m:Mp}(h:Ztm T p q)(hm:Lw[q]?=some (m.fr,m.to_))(h1:(Wk T.ign m.fr==1)=false)(h2:(Wk T.ign (m.to_.getLastD 0)==1)=false):Ztm T (p++[m]) (q+1):=by
 refine⟨?_,fun x hx=>?_⟩
 ·rw[Yy,Wq hm];exact h.sub.append (Zdh _)
 rcases Zj.1 hx with hx|hx
 ·exact h.ign x hx
 rw[Zi.1 hx];exact⟨h1,h2⟩
structure KtP(T:Tbl):Prop where
 cat:SpP T.cat 28 8
 cls:SpP T.cls 28 254
 joi:SpP T.joi 28 5
 bid:SpP T.bid 28 11
 scr:SpP T.scr 28 60
 ign:SpP T.ign 28 1
 dec:Aj T.dec T.exc 5
 map:Zl6 T.map T.sta 28
 pro:Ztm T T.pro 5
 ext:T.ext=[]∨∃ v,T.ext=[⟨12539,v,[7,8]⟩]
section
theorem Zpv:∀ c∈Ka,0≤c∧c≤1114111∧Zzf c=false∧Zkw c=false∧c≠46∧Ee c=false∧¬ (65≤c∧c≤90)∧c≠114∧c≠111:=by decide
theorem Ziq:Ka.Pairwise (· < ·):=by decide
theorem Zpq{L:List Int}(h:L.Pairwise (· < ·)){i:Nat}{x y:Int}(hi:0<i)(hx:L[i]?=some x)(hy:L[i-1]?=some y):y<x:=by
 obtain⟨a1,rfl⟩:=Zr.1 hx;obtain⟨a2,rfl⟩:=Zr.1 hy;exact Zfz.1 h (i-1) i a2 a1 (by omega)
theorem SpP.pw{l:List Sp}{M:Int}(h:SpP l 28 M):(l.map Sp.fr).Pairwise (· < ·):=Ziq.sublist (h.sub.trans (Zdg _ _))
theorem SpP.pool{l:List Sp}{M:Int}(h:SpP l 28 M){s:Sp}(hs:s∈l):s.fr∈Ka:=((h.sub.trans (Zdg _ _)).subset (Zgg.2 ⟨s,hs,rfl⟩))
theorem SpP.ok{l:List Sp}{M:Int}(h:SpP l 28 M):Zh8 l M :=
 ⟨by have:=h.len;omega,fun s hs=>by
   obtain⟨h1,h2,h3⟩:=h.one s hs;obtain⟨p1,p2,p3,_⟩:=Zpv _ (h.pool hs);exact⟨p1,h1,p2,p3,h2,h3⟩,fun i x y hi hx hy=>Zpq h.pw hi (by rw[Zn,hx];rfl) (by rw[Zn,hy];rfl)⟩
theorem Zkj:∀ {l:List Sp},(l.map Sp.fr).Pairwise (· < ·)→(∀ s∈l,s.to_=s.fr)→∀ s∈l,Wk l s.fr=s.val
 | [],_,_,s,hs=>by simp at hs
 | a::r,hp,h1,s,hs=>by
  rw[Zg4,Zg5]at hp;rw[Wk];rcases Zg.1 hs with rfl|hs
  ·rw[Zgn ⟨Zfn _,by rw[h1 s (by simp)];exact Zfn _⟩]
  have:=hp.1 s.fr (Zgg.2 ⟨s,hs,rfl⟩);rw[Zgq (by rw[h1 a (by simp)];omega)];exact Zkj hp.2 (fun x hx=>h1 x (by simp[hx])) s hs
theorem Zof:∀ {l:List Sp} {c:Int},(∀ s∈l,s.to_=s.fr∧s.fr≠c)→Wk l c=0
 | [],_,_=>rfl
 | a::r,c,h=>by
  rw[Wk];obtain⟨h1,h2⟩:=h a (by simp);rw[Zgq (by omega)];exact Zof fun s hs=>h s (by simp[hs])
theorem Sk:∀ {l:List Mp} {c:Int},(∀ m∈l,m.fr≠c)→Xb l c=[]
 | [],_,_=>rfl
 | a::r,c,h=>by
  rw[Xb,Zgq (h a (by simp))];exact Sk fun s hs=>h s (by simp[hs])
section
variable {d:List Mp} {exc:List Int}
theorem Aj.fr_in(h:Aj d exc 5){m:Mp}(hm:m∈d):7680≤m.fr∧m.fr≤7684:=by
 have:=h.sub.subset (Zgg.2 ⟨m,hm,rfl⟩);have h2:∀ c∈Zyx 5,(7680:Int)≤c∧c≤7684:=by decide
 exact h2 _ this
theorem Aj.pw(h:Aj d exc 5):(d.map Mp.fr).Pairwise (· < ·):=(show(Zyx 5).Pairwise (· < ·) by decide).sublist h.sub
theorem Aj.o(h:Aj d exc 5){c:Int}(hc:c<7680∨7684<c):Xb d c=[]:=Sk fun m hm e=>by have:=h.fr_in hm;omega
theorem Aj.to_in(h:Aj d exc 5){m:Mp}(hm:m∈d){c:Int}(hc:c∈m.to_):c=97∨c=98∨(7680≤c∧c<m.fr)∨c=769∨c=776∨c=803∨c=837∨c=945:=by
 obtain⟨x,r,e,h1,h2⟩:=h.tos m hm;rw[e]at hc;rcases Zg.1 hc with rfl|hc
 ·omega
 rcases h2 with rfl | ⟨y,hy,rfl⟩
 ·simp at hc
 rw[Zi.1 hc];simp only[Zg,Zh,Zfi]at hy;omega
theorem Aj.to_len(h:Aj d exc 5){m:Mp}(hm:m∈d):1≤m.to_.length∧m.to_.length≤2:=by
 obtain⟨x,r,e,_,h2⟩:=h.tos m hm;rw[e];rcases h2 with rfl | ⟨y,hy,rfl⟩<;>simp
theorem Aj.full(h:Aj d exc 5)(hu:∀ m∈d,Xb d m.fr=m.to_):∀ (k f:Nat) (x:Int) (r:List Int),x<7680+(k:Int)→k≤5→k<f→(∀ y∈r,Xb d y=[])→r.length+k≤10→(Jw d f (x::r)).isSome
 | k,0,_,_,_,_,hf,_,_=>by omega
 | k,f+1,x,r,hx,hk,hf,hr,hl=>by
  unfold Jw;by_cases hfx:Xb d x=[]
  ·have hm:Ll d (x::r)=false:=by
    simp only[Ll,List.any_eq_false,Zg];rintro y (rfl|hy)
    ·simp[hfx]
    simp[hr y hy]
   rw[Zgn hm];rfl
  have hm:Ll d (x::r)=true:=by
   simp only[Ll,Zdx];exact⟨x,by simp,by simpa using hfx⟩
  rw[Zgq (by rw[hm];simp)];obtain⟨m,hmd,hmf⟩:=Zwt hfx;have hto:Xb d x=m.to_:=by rw[← hmf];exact hu m hmd
  obtain⟨x',r',e,h1,h2⟩:=h.tos m hmd;have hfr:=h.fr_in hmd;have hnext:nextL d (x::r)=x'::(r'++r):=by
   have hrest:∀ l:List Int,(∀ y∈l,Xb d y=[])→nextL d l=l:=by
    intro l hl
    induction l with
    | nil=>rfl
    | cons a t ih =>
     have:=ih fun y hy=>hl y (by simp[hy])
     unfold nextL at this⊢;rw[Ze7,hl a (by simp),this];rfl
   have h3:=hrest r hr;unfold nextL at h3⊢;rw[Ze7,h3,hto,e];simp
  rw[hnext];have hr'l:r'.length≤1:=by rcases h2 with rfl | ⟨y,hy,rfl⟩<;>simp
  rw[Zgq (by simp;omega)];have hrn:∀ y∈r'++r,Xb d y=[]:=fun y hy=>by
   rcases Zj.1 hy with hy|hy
   ·refine h.o ?_;rcases h2 with rfl | ⟨z,hz,rfl⟩
    ·simp at hy
    rw[Zi.1 hy];simp only[Zg,Zh,Zfi]at hz;omega
   exact hr y hy
  cases k with
  | zero=>omega
  | succ k =>
   refine Aj.full h hu k f x' (r'++r) ?_ (by omega) (by omega) hrn (by rw[Zs];omega);omega
end
theorem Zjd{T:Tbl}(hf:Few T)(hu:Uq0 T)(hk:KtP T):Lq T:=by
 have hd:=hk.dec;have hmsub:(T.map.map Mp.fr).Sublist (T.sta.map Sp.fr):=by
  rw[hk.map.fr];exact List.filter_sublist.map _
 have hmpw:(T.map.map Mp.fr).Pairwise (· < ·):=hk.map.sp.pw.sublist hmsub;have hprosub:(T.pro.map Mp.fr).Sublist [48,109,945,1072,1632]:=by
  have:=(hk.pro.sub.trans (Zdg _ _)).map Prod.fst;rw[Zez]at this;exact this
 have hpin:∀ m∈T.pro,(m.fr,m.to_)∈Lw:=fun m hm=>(hk.pro.sub.trans (Zdg _ _)).subset (Zgg.2 ⟨m,hm,rfl⟩)
 have hign:∀ c:Int,c ∉ Ka→(Wk T.ign c==1)=false:=fun c hc=>by
  have:=Zof (l:=T.ign) (c:=c) (fun s hs=>⟨(hk.ign.one s hs).1,fun e=>hc (by rw[← e];exact hk.ign.pool hs)⟩);rw[this];rfl
 have hxin:∀ c∈T.exc,∃ m∈T.dec,m.fr=c:=fun c hc=>by
  obtain⟨m,hm,e⟩:=Zgg.1 (hd.xs.subset hc);exact⟨m,hm,e⟩
 have hxpw:T.exc.Pairwise (· < ·):=hd.pw.sublist hd.xs;refine⟨?_,?_,?_,?_,?_,?_,?_,?_,?_,hf,hu,?_,?_⟩
 ·intro j p z hp hz
  match j with
  | 0=>cases hp;cases hz;exact hk.cat.ok
  | 1=>cases hp;cases hz;exact hk.cls.ok
  | 2=>cases hp;cases hz;exact hk.joi.ok
  | 3=>cases hp;cases hz;exact hk.bid.ok
  | 4=>cases hp;cases hz;exact hk.scr.ok
  | 5=>cases hp;cases hz;exact hk.map.sp.ok
  | 6=>cases hp;cases hz;exact hk.ign.ok
  | _+7=>simp[Zxl]at hp
 ·intro j p hp
  match j with
  | 0 =>
   cases hp
   rcases hk.ext with e | ⟨v,e⟩
   ·rw[e];exact⟨by simp,by simp,fun i x y _ h=>by simp at h,fun _=>by simp,fun h=>by omega⟩
   rw[e];refine⟨by simp,fun m hm=>?_,fun i x y hi h=>?_,fun _ m hm=>?_,fun h=>by omega⟩
   ·rw[Zi.1 hm];exact⟨by show(0:Int)≤12539;omega,by show(12539:Int)≤1114111;omega,.inl (by show Zzf 12539=false;decide),by simp,by simp⟩
   ·rw[List.getElem?_cons]at h;split at h
    ·omega
    simp at h
   rw[Zi.1 hm];refine⟨fun c hc=>?_,fun i x y hi hx hy=>?_⟩
   ·simp at hc;omega
   match i with
   | 1=>simp at hx hy;omega
   | _+2=>simp at hx
  | 1 =>
   cases hp
   refine⟨by have:=hf.rows.2.1;exact this,fun m hm=>?_,fun i x y hi hx hy=>Zpq hmpw hi (by rw[Zn,hx];rfl) (by rw[Zn,hy];rfl),fun h=>by omega,fun _ m hm c hc=>?_⟩
   ·have h1:=hk.map.frs m hm;obtain⟨v,_,_,h2⟩:=hk.map.tos m hm;have h3:∀ c∈([947,7684,128512]:List Int),0≤c∧c≤1114111∧Zzf c=false:=by decide
    obtain⟨q1,q2,q3⟩:=h3 _ h1;refine⟨q1,q2,.inl q3,?_,?_⟩<;>(rcases h2 with h2|h2<;>rw[h2]<;>simp)
   obtain⟨v,h1,h2,h3⟩:=hk.map.tos m hm;have hcv:c=v∨c=46:=by rcases h3 with h3|h3<;>rw[h3]at hc<;>simp at hc<;>omega
   unfold Zw1;rcases hcv with rfl|rfl
   ·simp;omega
   decide
  | 2 =>
   cases hp
   refine⟨by have:=hf.rows.1;exact this,fun m hm=>?_,fun i x y hi hx hy=>Zpq hd.pw hi (by rw[Zn,hx];rfl) (by rw[Zn,hy];rfl),fun h=>by omega,fun _ m hm c hc=>?_⟩
   ·have h1:=hd.fr_in hm;have h2:=hd.to_len hm;refine⟨by omega,by omega,.inl ?_,h2.1,by omega⟩;unfold Zzf Ee Zzh;simp;omega
   have h1:=hd.fr_in hm;have h2:=hd.to_in hm hc;unfold Zw1;simp;omega
  | 3 =>
   cases hp
   have hpw:(T.pro.map Mp.fr).Pairwise (· < ·):=(show([48,109,945,1072,1632]:List Int).Pairwise (· < ·) by decide).sublist hprosub;have hall:∀ q∈Lw,0≤q.1∧q.1≤1114111∧(Zzf q.1=false∨Zkw q.1=true)∧1≤q.2.length∧q.2.length≤18∧∀ c∈q.2,Zw1 c=true:=by decide
   refine⟨by have:=hf.rows.2.2.1;exact this,fun m hm=>?_,fun i x y hi hx hy=>Zpq hpw hi (by rw[Zn,hx];rfl) (by rw[Zn,hy];rfl),fun h=>by omega,fun _ m hm c hc=>(hall _ (hpin m hm)).2.2.2.2.2 c hc⟩;obtain⟨q1,q2,q3,q4,q5,_⟩:=hall _ (hpin m hm);exact⟨q1,q2,q3.imp id fun h=>⟨rfl,h⟩,q4,q5⟩
  | _+4=>simp[Zy0]at hp
 ·have:=hd.len.2;omega
 ·intro c hc;obtain⟨m,hm,rfl⟩:=hxin c hc;have h1:=hd.fr_in hm;refine⟨by omega,by omega,?_,?_⟩
  ·unfold Zzf Ee Zzh;simp;omega
  rw[hu m hm];have:=(hd.to_len hm).1;intro e;rw[e]at this;simp at this
 ·exact fun i x y hi hx hy=>Zpq hxpw hi hx hy
 ·have:=congrArg List.length hk.map.fr;rw[Zq,Zq]at this;exact this.symm
 ·intro m hm;have h1:m.fr∈(T.sta.filter fun s=>s.val==3).map Sp.fr:=by rw[← hk.map.fr];exact Zgg.2 ⟨m,hm,rfl⟩
  obtain⟨s,hs,hsf⟩:=Zgg.1 h1;obtain⟨hs1,hs3⟩:=Ze3.1 hs;have hp:=Zpv _ (hk.map.sp.pool hs1);rw[hsf]at hp;refine⟨?_,fun c hc=>?_⟩
  ·unfold Zo3;rw[Zgq (by rintro(h|h|h)<;>simp_all),Zgq hp.2.2.2.2.2.2.1,← hsf,Zkj hk.map.sp.pw (fun x hx=>(hk.map.sp.one x hx).1) s hs1];simpa using hs3
  obtain⟨v,h2,h3,h4⟩:=hk.map.tos m hm;have hcv:c=v∨c=46:=by rcases h4 with h4|h4<;>rw[h4]at hc<;>simp at hc<;>omega
  unfold Zo3;rw[Zgn];rcases hcv with rfl|rfl
  ·left;unfold Zkw;simp;omega
  right;left;rfl
 ·intro m hm;refine⟨(hd.to_len hm).2,fun c hc=>?_⟩;have h1:=hd.fr_in hm;have h2:=hd.to_in hm hc;unfold Ee Zzh;refine⟨by omega,?_,?_⟩<;>simp<;>omega
 ·intro m hm;have h1:=hd.fr_in hm;exact Aj.full hd hu 5 257 m.fr [] (by omega) (by omega) (by omega) (by simp) (by simp)
 ·intro i j a b hji ha hb hca _ e;have hx:=hd.tw i j a b hji ha hb e;have h2:(Xb T.dec a.fr).length=2:=by
   refine Zfo fun hn=>?_
   unfold Be at hca;rw[Md hn]at hca;simp at hca
  match hh:Xb T.dec a.fr with
  | [x,y] =>
   unfold Be at hca;rw[Jg hh,Zgn (.inl (by unfold Ztl;rw[Zdx];exact⟨a.fr,hx,by simp⟩))]at hca;simp at hca
  | []=>rw[hh]at h2;simp at h2
  | [_]=>rw[hh]at h2;simp at h2
  | _::_::_::_=>rw[hh]at h2;simp at h2
 intro m hm;have hp:=hpin m hm;obtain⟨h1,h2⟩:=hk.pro.ign m hm;have hpo:∀ c:Int,c≠48→c≠109→c≠945→c≠1072→c≠1632→Xb T.pro c=[]:=fun c n1 n2 n3 n4 n5=>Sk fun m' hm' e=>by
  have:=hprosub.subset (Zgg.2 ⟨m',hm',rfl⟩);simp only[Zg,Zh,Zfi]at this;omega
 have hfr:m.fr<7680:=by
  simp only[Lw,Zg,Zh,Zfi,Zfk]at hp;omega
 refine⟨hd.o (.inl hfr),h1,fun c hc=>?_⟩;simp only[Lw,Zg,Zh,Zfi,Zfk]at hp;rcases hp with⟨_,e⟩ | ⟨_,e⟩ | ⟨_,e⟩ | ⟨_,e⟩ | ⟨_,e⟩<;>rw[e]at hc h2<;>simp only[Zg,Zh,Zfi]at hc
 ·subst hc;exact⟨hd.o (by omega),h2,by decide,hpo _ (by omega) (by omega) (by omega) (by omega) (by omega)⟩
 ·rcases hc with rfl|rfl
  ·exact⟨hd.o (by omega),hign _ (by decide),by decide,hpo _ (by omega) (by omega) (by omega) (by omega) (by omega)⟩
  exact⟨hd.o (by omega),h2,by decide,hpo _ (by omega) (by omega) (by omega) (by omega) (by omega)⟩
 ·subst hc;exact⟨hd.o (by omega),h2,by decide,hpo _ (by omega) (by omega) (by omega) (by omega) (by omega)⟩
 ·subst hc;exact⟨hd.o (by omega),h2,by decide,hpo _ (by omega) (by omega) (by omega) (by omega) (by omega)⟩
 rcases hc with rfl|rfl
 ·exact⟨hd.o (by omega),hign _ (by decide),by decide,hpo _ (by omega) (by omega) (by omega) (by omega) (by omega)⟩
 exact⟨hd.o (by omega),h2,by decide,hpo _ (by omega) (by omega) (by omega) (by omega) (by omega)⟩
end
section
structure Mq(w0 w:World)(B b s:Nat)(cs:List Value)(dv:Value)(dec:List MpS)(ev:Value)(exc:List Int):Prop where
 src:Src B w s
 chg:Chg (fun k=>k=b∨k=s) w0 w
 box:Xm w b ((cs.set 9 dv).set 10 ev)
 dOwn:Own mpE w w0.heap.size dv dec
 eOwn:Own Ww w w0.heap.size ev exc
 dis:∀ k,dv.ownBlock=some k→ev.ownBlock≠some k
 tos:∀ m∈dec,Xw w (fun k=>w0.heap.size≤k∧dv.ownBlock≠some k∧ev.ownBlock≠some k) m.1.tv m.1.to_∧m.1.to_.length≤2
 bs:b≠s
 bl:b<w0.heap.size
 sl:s<w0.heap.size
 bB:B≤b
section
variable {w0 w w':World} {B b s:Nat} {cs:List Value} {dv ev:Value} {dec:List MpS} {exc:List Int}
theorem Mq.to(h:Mq w0 w B b s cs dv dec ev exc)(t:Vv B s w w'):Mq w0 w' B b s cs dv dec ev exc :=
 have hsl:=h.sl
 ⟨t.src,h.chg.thenB t.chg (fun k _ e=>.inr e),h.box.chg t.chg h.bs,h.dOwn.chg t.chg (fun k hk e=>by have:=(h.dOwn.lt k hk).1;omega),h.eOwn.chg t.chg (fun k hk e=>by have:=(h.eOwn.lt k hk).1;omega),h.dis,
   fun m hm=>⟨(h.tos m hm).1.chg t.chg (fun k hk e=>by have:=hk.1;omega),(h.tos m hm).2⟩,h.bs,h.bl,h.sl,h.bB⟩
theorem Mq.ext(h:Mq w0 w B b s cs dv dec ev exc)(x:Ext w w'):Mq w0 w' B b s cs dv dec ev exc :=
 ⟨h.src.ext x,h.chg.trans (x.chg _),h.box.ext x,h.dOwn.ext x,h.eOwn.ext x,h.dis,fun m hm=>⟨(h.tos m hm).1.ext x,(h.tos m hm).2⟩,h.bs,h.bl,h.sl,h.bB⟩
theorem Mq.growE{A:Option Addr}{n c:Nat}{x:Int}{o:Obj}(h:Mq w0 w B b s cs dv dec ev exc)(h10:10<cs.length)(hg:Grew Ww (w.alloc o) w0.heap.size ev (exc++[x]) A n c w') :
 Mq w0 (w'.setCell ⟨b,10,none⟩ (.slice A n c)) B b s cs dv dec (.slice A n c) (exc++[x]):=by
 have hsl:=h.sl;have hbl:=h.bl;have hlt:∀ k,ev.ownBlock=some k→w0.heap.size≤k:=fun k hk=>(h.eOwn.lt k hk).1
 have hat:∀ k,(Value.slice A n c).ownBlock=some k→ev.ownBlock=some k∨k=(w.alloc o).heap.size:=fun k hk=>by
  rcases hg.at_ with h1|h1
  ·exact .inl (by rw[← h1];exact hk)
  rw[hk]at h1;exact .inr (Zgm h1)
 have hd:∀ k,dv.ownBlock=some k→¬ (Value.slice A n c).ownBlock=some k:=fun k h1 h2=>by
  rcases hat k h2 with h3|h3
  ·exact h.dis k h1 h3
  have:=(h.dOwn.lt k h1).2;simp at h3;omega
 refine⟨?_,?_,?_,?_,?_,?_,?_,h.bs,hbl,hsl,h.bB⟩
 ·exact(((h.src.alloc o).chg hg.chg (fun e=>by have:=hlt s e;omega) (fun k hk e=>by have:=hlt k e;have:=h.src.ge;omega))).setCell h.bB (by show b≠s;exact h.bs) _
 ·exact((h.chg.alloc o).thenB hg.chg (fun k hk e=>by have:=hlt k e;omega)).setCell (.inl (.inl rfl)) _
 ·have h1:=(h.box.ext ((Yk _).alloc o)).chg hg.chg (fun e=>by have:=hlt b e;omega);have h2:=h1.set (j:=10) (by simp;omega) (.slice A n c)
  rwa [Zdt]at h2
 ·exact(((h.dOwn.ext ((Yk _).alloc o)).chg hg.chg (fun k h1 h2=>h.dis k h1 h2))).far (fun e=>by have:=(h.dOwn.lt b e).1;omega) _
 ·exact hg.own.far (fun e=>by have:=(hg.own.lt b e).1;omega) _
 ·exact fun k h1 h2=>hd k h1 h2
 intro m hm;obtain⟨h1,h2⟩:=h.tos m hm;refine⟨?_,h2⟩;have h3:Xw (w.alloc o) (fun k=>(w0.heap.size≤k∧dv.ownBlock≠some k∧ev.ownBlock≠some k)∧k<w.heap.size) m.1.tv m.1.to_:=(Rd.mono h1 fun k hk hl=>⟨hk,hl⟩).ext ((Yk _).alloc o)
 have h4:=(h3.chg hg.chg (fun k hk e=>hk.1.2.2 e)).chg ((Chg.refl (· = b) w').setCell (p:=⟨b,10,none⟩) (.inl rfl) (.slice A n c)) (fun k hk e=>by have:=hk.1.1;omega);exact Rd.mono h4 fun k hk _=>⟨hk.1.1,hk.1.2.1,fun e=>by
  rcases hat k e with h5|h5
  ·exact hk.1.2.2 h5
  have:=hk.2;simp at h5;omega⟩
theorem Mq.growD{A:Option Addr}{n c:Nat}{m:MpS}{o:Obj}(h:Mq w0 w B b s cs dv dec ev exc)(h10:10<cs.length)(hm:Xw w (fun k=>w0.heap.size≤k∧dv.ownBlock≠some k∧ev.ownBlock≠some k) m.1.tv m.1.to_)(hm2:m.1.to_.length≤2)
 (hg:Grew mpE (w.alloc o) w0.heap.size dv (dec++[m]) A n c w'):Mq w0 (w'.setCell ⟨b,9,none⟩ (.slice A n c)) B b s cs (.slice A n c) (dec++[m]) ev exc:=by
 have hsl:=h.sl;have hbl:=h.bl;have hlt:∀ k,dv.ownBlock=some k→w0.heap.size≤k:=fun k hk=>(h.dOwn.lt k hk).1
 have hat:∀ k,(Value.slice A n c).ownBlock=some k→dv.ownBlock=some k∨k=(w.alloc o).heap.size:=fun k hk=>by
  rcases hg.at_ with h1|h1
  ·exact .inl (by rw[← h1];exact hk)
  rw[hk]at h1;exact .inr (Zgm h1)
 refine⟨?_,?_,?_,?_,?_,?_,?_,h.bs,hbl,hsl,h.bB⟩
 ·exact(((h.src.alloc o).chg hg.chg (fun e=>by have:=hlt s e;omega) (fun k hk e=>by have:=hlt k e;have:=h.src.ge;omega))).setCell h.bB (by show b≠s;exact h.bs) _
 ·exact((h.chg.alloc o).thenB hg.chg (fun k hk e=>by have:=hlt k e;omega)).setCell (.inl (.inl rfl)) _
 ·have h1:=(h.box.ext ((Yk _).alloc o)).chg hg.chg (fun e=>by have:=hlt b e;omega);have h2:=h1.set (j:=9) (by simp;omega) (.slice A n c)
  rwa [List.set_comm _ _ (by omega),Zdt]at h2
 ·exact hg.own.far (fun e=>by have:=(hg.own.lt b e).1;omega) _
 ·exact(((h.eOwn.ext ((Yk _).alloc o)).chg hg.chg (fun k h1 h2=>h.dis k h2 h1))).far (fun e=>by have:=(h.eOwn.lt b e).1;omega) _
 ·intro k h1 h2;rcases hat k h1 with h3|h3
  ·exact h.dis k h3 h2
  have:=(h.eOwn.lt k h2).2;simp at h3;omega
 intro q hq;have key:∀ {v:Value} {l:List Int},Xw w (fun k=>w0.heap.size≤k∧dv.ownBlock≠some k∧ev.ownBlock≠some k) v l→Xw (w'.setCell ⟨b,9,none⟩ (.slice A n c)) (fun k=>w0.heap.size≤k∧(Value.slice A n c).ownBlock≠some k∧ev.ownBlock≠some k) v l:=by
  intro v l h1;have h3:Xw (w.alloc o) (fun k=>(w0.heap.size≤k∧dv.ownBlock≠some k∧ev.ownBlock≠some k)∧k<w.heap.size) v l:=Xw.ext (Rd.mono h1 fun k hk hl=>⟨hk,hl⟩) ((Yk _).alloc o);have h4:=(h3.chg hg.chg (fun k hk e=>hk.1.2.1 e)).chg ((Chg.refl (· = b) w').setCell (p:=⟨b,9,none⟩) (.inl rfl) (.slice A n c)) (fun k hk e=>by have:=hk.1.1;omega);exact Rd.mono h4 fun k hk _=>⟨hk.1.1,fun e=>by
   rcases hat k e with h5|h5
   ·exact hk.1.2.1 h5
   have:=hk.2;simp at h5;omega,hk.1.2.2⟩
 rcases Zj.1 hq with hq|hq
 ·exact⟨key (h.tos q hq).1,(h.tos q hq).2⟩
 rw[Zi.1 hq];exact⟨key hm,hm2⟩
end
structure Pd(B s:Nat)(wI w:World)(mb:Nat)(fr:Int)(tv:Value)(to_:List Int):Prop where
 t:Vv B s wI w
 box:Xm w mb [.int .i64 fr,tv]
 own:Own Ww w wI.heap.size tv to_
 ne:tv.ownBlock≠some mb
 lo:wI.heap.size≤mb
 l1:1≤to_.length
 l2:to_.length≤2
 sl:s<wI.heap.size
section
variable {wI w w':World} {B s mb:Nat} {fr:Int} {tv:Value} {to_:List Int}
theorem Pd.next(h:Pd B s wI w mb fr tv to_)(t:Vv B s w w'):Pd B s wI w' mb fr tv to_ :=
 have hsl:=h.sl;have hlo:=h.lo
 ⟨h.t.trans t,h.box.chg t.chg (by omega),h.own.chg t.chg (fun k hk e=>by have:=(h.own.lt k hk).1;omega),h.ne,h.lo,h.l1,h.l2,h.sl⟩
theorem Pd.ext(h:Pd B s wI w mb fr tv to_)(x:Ext w w'):Pd B s wI w' mb fr tv to_:=⟨h.t.ext x,h.box.ext x,h.own.ext x,h.ne,h.lo,h.l1,h.l2,h.sl⟩
theorem Pd.ge(h:Pd B s wI w mb fr tv to_):B≤s:=h.t.src.ge
theorem Pd.put{g n c:Nat}{to_:List Int}(h:Pd B s wI w mb fr (.slice (some ⟨g,0,none⟩) n c) to_){j:Nat}(hj:j<to_.length)(x:Int):Pd B s wI (w.setCell ⟨g,j,none⟩ (.int .i64 x)) mb fr (.slice (some ⟨g,0,none⟩) n c) (to_.set j x) :=
 have hsl:=h.sl;have hg:=(h.own.lt g rfl).1;have hBs:=h.ge
 ⟨h.t.setCell hg (by show g≠s;omega) (by show B≤g;omega) _,h.box.far (fun e=>h.ne (by rw[e];rfl)) _,h.own.put rfl hj x rfl,h.ne,h.lo,by rw[Zf];exact h.l1,by rw[Zf];exact h.l2,h.sl⟩
theorem Pd.grow{w5:World}{o:Obj}{x:Int}{A:Option Addr}{n c:Nat}(h:Pd B s wI w mb fr tv to_)(h1:to_.length=1)(hg:Grew Ww (w.alloc o) wI.heap.size tv (to_++[x]) A n c w5):Pd B s wI (w5.setCell ⟨mb,1,none⟩ (.slice A n c)) mb fr (.slice A n c) (to_++[x]):=by
 have hsl:=h.sl;have hlo:=h.lo;have hBs:=h.ge;have hlt:∀ k,tv.ownBlock=some k→wI.heap.size≤k:=fun k hk=>(h.own.lt k hk).1
 have hne:(Value.slice A n c).ownBlock≠some mb:=fun e=>by
  rcases hg.at_ with h2|h2
  ·exact h.ne (by rw[← h2];exact e)
  rw[e]at h2;have:=h.box.lt;simp at h2;omega
 refine⟨⟨?_,?_⟩,?_,?_,hne,hlo,by simp,by simp[h1],hsl⟩
 ·exact((h.t.src.alloc o).chg hg.chg (fun e=>by have:=hlt s e;omega) (fun k hk e=>by have:=hlt k e;omega)).setCell (by show B≤mb;omega) (by show mb≠s;omega) _
 ·exact((h.t.chg.alloc o).thenB hg.chg (fun k hk e=>by have:=hlt k e;omega)).setCell (.inr hlo) _
 ·exact((h.box.ext ((Yk _).alloc o)).chg hg.chg (fun e=>h.ne e)).set (j:=1) (by simp) _
 exact hg.own.far hne _
end
end
theorem Ziz(b:Nat)(n:Int)(h1:1≤n)(h2:n≤9223372036854775807)(w:World)(B:Nat)(hs:Src B w b) :
 ∃ v:Nat,(v:Int)<n∧Calls prog 42 #[.pointer (some ⟨b,0,none⟩),.int .i64 n] w fun e w'=>e=.returned (.int .i64 (v:Int))∧Vv B b w w':=by
 have HS:=Y8 hs;obtain⟨a,len,cap,i,hb,hB,hl,hi,hx⟩:=hs;have hc0:w.cell? ⟨b,0,none⟩=some (.slice a len cap):=by simp[World.cell?,hb]
 have hc1:w.cell? ⟨b,1,none⟩=some (.int .i64 (i:Int)):=by simp[World.cell?,hb]
 have hf1:w.frozen? ⟨b,1,none⟩=false:=by simp[World.frozen?,hb]
 by_cases hlt:i<len
 ·have HB:=Y8 hb;have HX:=Y8 hx;have HL:=Y8 hl;have HG:=Y8 hB;obtain⟨x,rfl,hxb,hxc⟩:=hx (by omega);obtain⟨z,hz,hzb⟩:=hxc i hlt;obtain⟨_,hz0,_⟩:=hxc 0 (by omega);have hspot:=Zzv hz0;clear hz0;obtain⟨xb,off,spot⟩:=x;have hs0:spot=none:=hspot;subst hs0;have hz':w.cell? ⟨xb,off+i,none⟩=some (.int .i64 z):=by rw[← hz];congr 1;simp[Addr.add]
  have hd:decide ((len:Int)≤(i:Int))=false:=by simp;omega
  have hi0:(0:Int)≤(i:Int):=by omega
  have hi1:(i:Int)<(len:Int):=by omega
  have hne:¬ xb=b:=Zde (Zgp hxb hB);unfold maxLen at hl;clear hb hx hxc hz hxb hspot hi hB;refine⟨(Zxz z n).toNat,by have:=Mw z n h1;omega,?_⟩;go_enter func42,ntmps42;go_wp2;go_quiet (fail);go_wp2;go_quiet ((go_at_call 23;exact Calls.quiet_of_same ((pick_any _ _ h1 h2 _).mono fun _ _ h=>⟨h.1,h.2.symm⟩)));go_wp2;go_ret;exact⟨by rw[Zew (Mw z n h1).1];rfl,⟨Zp4 HB.o HG.o HL.o hlt HX.o _ _,Zsb _ _ _ _ _⟩⟩
 have hd:decide ((len:Int)≤(i:Int))=true:=by simp;omega
 have hl':len≤9223372036854775807:=by unfold maxLen at hl;omega
 refine⟨0,by omega,?_⟩;go_enter func42,ntmps42;go_wp2;go_quiet (fail);go_wp2;go_ret;exact⟨rfl,⟨HS.o,(Chg.refl _ _).drewN _⟩⟩
def Zx3(a0 a1 a2 a3 a4 a5:Int):Prop:=a0≤8∧a1≤254∧a2≤5∧a3≤11∧a4≤60∧0≤a5∧a5≤4∧a5≠3
def Tg(w:World)(e:Ending)(w':World):Prop:=∃ a0 a1 a2 a3 a4 a5:Int,e=.returned (.agg #[.int .i64 a0,.int .i64 a1,.int .i64 a2,.int .i64 a3,.int .i64 a4,.int .i64 a5])∧Zx3 a0 a1 a2 a3 a4 a5∧Ext w w'
theorem Zoh(a0 a1 a2 a3 a4 a5:Int)(w:World)(a:Act)(ha:a.tmps[2]?.getD undef=.pointer (some ⟨w.heap.size,0,none⟩))(hd:a.defers=[])(hu:Zx3 a0 a1 a2 a3 a4 a5):bodyPost prog Tryz.f44 (Tg w) Exit.ret a (w.alloc (.cells #[.int .i64 a0,.int .i64 a1,.int .i64 a2,.int .i64 a3,.int .i64 a4,.int .i64 a5] 95)) :=
 Ys (v:=.agg #[.int .i64 a0,.int .i64 a1,.int .i64 a2,.int .i64 a3,.int .i64 a4,.int .i64 a5]) (by simp[results,results44,go_sem,ha]) hd ⟨a0,a1,a2,a3,a4,a5,rfl,hu,(Yk w).alloc _⟩
theorem Zoi(c:Int)(w:World):Calls prog 44 #[.int .i64 c] w (Tg w):=by
 go_enter func44,ntmps44;go_wp2_with fail;all_goals exact Zoh _ _ _ _ _ _ _ _ rfl rfl (by unfold Zx3;omega)
def Zx2(N B b:Nat)(w:World)(e:Ending)(w':World):Prop:=∃ s:ByteArray,e=.returned (.string s)∧s.size≤N∧Vv B b w w'
theorem Zyc(B b:Nat)(w:World)(hs:Src B w b):Calls prog 88 #[.pointer (some ⟨b,0,none⟩)] w (Zx2 13 B b w):=by
 have Hs:=Y8 (Vv.start hs);clear hs;go_enter func88,ntmps88;go_wp2_with fail;refine(Xc b 5 (by omega) (by omega) _ B Hs.o.src).mono ?_;rintro e w1 ⟨v,hv,rfl,h1⟩;have H1:=Y8 (Hs.o.trans h1);clear h1;by_cases hv0:0<v
 ·have e1:decide ((0:Int)<(v:Int))=true:=Ye;clear hv;go_wp2_with fail;have hl:=Zw7 w1 9 [⟨#[97]⟩,⟨#[98]⟩,⟨#[109]⟩,⟨#[114,110]⟩,⟨#[65]⟩,⟨#[111]⟩,⟨#[48]⟩,⟨#[120,121]⟩,⟨#[206,177]⟩,⟨#[208,176]⟩,⟨#[97,98]⟩,⟨#[120,110,45,45,98,99,104,101,114,45,107,118,97]⟩] 12 rfl _ rfl (by omega);have hbl:=H1.o.src.lt;have H3:=Y8 (H1.o.alloc (.cells #[.string ⟨#[97]⟩,.string ⟨#[98]⟩,.string ⟨#[109]⟩,.string ⟨#[114,110]⟩,.string ⟨#[65]⟩,.string ⟨#[111]⟩,.string ⟨#[48]⟩,.string ⟨#[120,121]⟩,.string ⟨#[206,177]⟩,.string ⟨#[208,176]⟩,.string ⟨#[97,98]⟩,.string ⟨#[120,110,45,45,98,99,104,101,114,45,107,118,97]⟩] 9));refine(Xc b 12 (by omega) (by omega) _ B H3.o.src).mono ?_;rintro e w2 ⟨k,hk,rfl,h2⟩;have H4:=Y8 (H3.o.trans h2);have hl2:=Rd.chg hl h2.chg (fun k hk e=>by omega);obtain⟨L,hL⟩:∃ L:List ByteArray,[⟨#[97]⟩,⟨#[98]⟩,⟨#[109]⟩,⟨#[114,110]⟩,⟨#[65]⟩,⟨#[111]⟩,⟨#[48]⟩,⟨#[120,121]⟩,⟨#[206,177]⟩,⟨#[208,176]⟩,⟨#[97,98]⟩,⟨#[120,110,45,45,98,99,104,101,114,45,107,118,97]⟩]=L:=⟨_,rfl⟩;have hmem:∀ x∈L,x.size≤13:=by
   rw[← hL];intro x hx;simp only[Zg,Zh,Zfi]at hx;rcases hx with rfl|rfl|rfl|rfl|rfl|rfl|rfl|rfl|rfl|rfl|rfl|rfl<;>decide
  have hlen:L.length=12:=by rw[← hL];rfl
  replace hl2:RdE Vm w2 (fun k=>w1.heap.size≤k) (.slice (some ⟨w1.heap.size,0,none⟩) 12 12) L:=by rw[← hL];exact hl2
  clear hL hl h2;obtain⟨z,hz⟩:∃ z,L[k]?=some z:=⟨_,Zz (by rw[hlen];omega)⟩;obtain⟨g,o,c,hvv,_,_,_,hg,cz⟩:=strs_get hl2 hz;simp only[Yd,Yc,Zga,Zg0,Zfw]at hvv;obtain⟨⟨rfl,rfl⟩,-,rfl⟩:=hvv;rw[Zg7]at cz;have hzs:=hmem z (Zy hz);have k0:(0:Int)≤(k:Int):=by omega
  have k1:k<12:=by omega
  clear hz hl2 hmem hlen;go_wp2_with fail;go_ret;exact⟨_,rfl,hzs,H4.o⟩
 obtain rfl:v=0:=by omega
 clear hv;go_wp2_with fail;refine(Xc b 3 (by omega) (by omega) _ B H1.o.src).mono ?_;rintro e w2 ⟨k,hk,rfl,h2⟩;have H2:=Y8 (H1.o.trans h2);clear h2;obtain⟨q,hq⟩:=gnX (1+k);have r1:IntKind.i64.wrap (1+(k:Int))=(q:Int):=by rw[Yp _ (by omega)];omega
 have hq3:q≤3:=by omega
 clear hq hk;go_wp2_with fail;go_loopw [4,3] (fun o t wr=>∃ (i:Nat) (u:ByteArray),i≤3∧o=.int .i64 (i:Int)∧t=.string u∧u.size+4*i≤12∧Vv B b w wr) (fun o _ _=>(intOf o).toNat);case atStart=>exact⟨q,⟨#[]⟩,hq3,rfl,rfl,by show 0+_≤_;omega,H2.o⟩
 obtain⟨i,u,hi,rfl,rfl,hu,hx⟩:=hrel;have Hx:=Y8 hx;clear hx;by_cases hi0:0<i
 ·have d1:decide ((0:Int)<(i:Int))=true:=Ye;obtain⟨p,hp⟩:=gnX (i-1);have r2:IntKind.i64.wrap ((i:Int)-1)=(p:Int):=by rw[Yp _ (by omega)];omega
  go_wp2_with fail;refine(Zqy B b _ Hx.o.src).mono ?_;rintro e w5 ⟨z,rfl,h5⟩;have H5:=Y8 (Hx.o.trans h5);clear h5;go_wp2_with fail;refine(Fx _ [z] _ (Ws w5 z _ _ rfl)).mono ?_;rintro e w6 ⟨t6,x6,rfl,ht6,hx6⟩;have H6:=Y8 ((H5.o.alloc _).ext hx6);simp only[Zl,Zk]at ht6;have hus:¬ 9223372036854775807<u.size+t6.size:=by omega
  clear hx6;go_wp2_with fail;go_roundw;case rel=>exact⟨p,_,by omega,rfl,rfl,by rw[Yl];omega,H6.o⟩
  (simp[intOf];omega)
 obtain rfl:i=0:=by omega
 go_wp2_with fail;go_ret;exact⟨_,rfl,by omega,Hx.o⟩
