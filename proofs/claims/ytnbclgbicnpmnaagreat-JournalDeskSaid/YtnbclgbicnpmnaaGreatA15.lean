/- Lemmas of this claim: RPu, P2, P3, P4, P5, P6. Conditions: as named. -/
import Derived.Test.YtnbclgbicnpmnaaGreatA13
namespace Go.Proofs.YtnbclgbicnpmnaaGreat
open Go.RowKit Go.Sort Tryz
set_option maxHeartbeats 0
set_option maxRecDepth 100000
set_option linter.all false
def Ef(P:List Bool)(k:Nat):Nat:=(P.take k).count true
structure Zkg(l:List Int)(P:List Bool)(i k:Nat):Prop where
 lt:k<i
 free:P[k]?=some false
 min:∀ j,j<i→P[j]?=some false→l.getD k 0≤l.getD j 0
 fst:∀ j,j<k→P[j]?=some false→l.getD k 0<l.getD j 0
structure Zi5(l:List Int)(P:List Bool)(n:Int)(i:Nat):Prop where
 len:P.length=l.length
 n0:128≤n
 low:∀ j,P[j]?=some false→n≤l.getD j 0
 cnt:i≤Ef P P.length
 tie:∀ j,P[j]?=some false→l.getD j 0=n→i≤Ef P j
theorem Iv(P:List Bool){a b:Nat}(h:a≤b):Ef P a≤Ef P b:=by
 unfold Ef;exact((Ze4 h).count_le true)
theorem Ss(P:List Bool)(k:Nat):Ef P k≤P.length:=by
 unfold Ef;exact Zgo List.count_le_length (by rw[Zp];omega)
theorem Kw{P:List Bool}{k:Nat}{b:Bool}(h:P[k]?=some b):Ef P (k+1)=Ef P k+(if b then 1 else 0):=by
 unfold Ef;rw[Za,h,List.count_append];cases b<;>simp
theorem Zz9(P:List Bool)(a:Nat):∀ {k:Nat},k≤a→Ef (P.set a true) k=Ef P k:=by
 intro k hk;unfold Ef;rw[List.take_set_of_le hk]
theorem Me{P:List Bool}{a:Nat}(h:P[a]?=some false):∀ {k:Nat},a<k→k≤P.length→Ef (P.set a true) k=Ef P k+1:=by
 intro k hk hkl
 induction k with
 | zero=>omega
 | succ k ih =>
  have hb:P[k]?=some P[k]:=Zz (by omega);rw[Kw hb];by_cases e:k=a
  ·subst e;have:P[k]=false:=by rw[h]at hb;exact(Zgm hb).symm
   rw[Kw (P:=P.set k true) (b:=true) (by rw[Yv,Zgn rfl,Zgn (by omega)]),Zz9 P k (Ym _),this];simp
  rw[Kw (P:=P.set a true) (b:=P[k]) (by rw[Yv,Zgq (by omega)];exact hb),ih (by omega) (by omega)];omega
theorem Sj{P:List Bool}{a j:Nat}(h:(P.set a true)[j]?=some false):j≠a∧P[j]?=some false:=by
 rw[Yv]at h;split at h
 ·split at h<;>cases h
 rename_i hne;exact⟨fun e=>hne e.symm,h⟩
def Zzs(l:List Int)(P:List Bool)(n:Int)(i k:Nat):Int:=(l.getD k 0-n)*((Ef P P.length:Int)+1)+(Ef P k:Int)-(i:Int)
theorem Zli{l:List Int}{P:List Bool}{n:Int}{i k:Nat}(h:Zi5 l P n i)(b:Zkg l P l.length k):0≤Zzs l P n i k:=by
 unfold Zzs;have h1:=h.low k b.free;have h2:=h.cnt;rcases Int.lt_or_eq_of_le h1 with h3|h3
 ·have:((Ef P P.length:Int)+1)≤(l.getD k 0-n)*((Ef P P.length:Int)+1):=by
   have:=Int.mul_le_mul_of_nonneg_right (show(1:Int)≤l.getD k 0-n by omega) (show(0:Int)≤(Ef P P.length:Int)+1 by omega);rw[Int.one_mul]at this;exact this
  omega
 have h4:=h.tie k b.free h3.symm;rw[h3,Int.sub_self,Int.zero_mul];omega
theorem Zlh{l:List Int}{P:List Bool}{n:Int}{i k:Nat}(h:Zi5 l P n i)(hs:∀ c∈l,0≤c∧c≤1114111)(b:Zkg l P l.length k)(hl:l.length≤256):Zzs l P n i k≤300000000:=by
 unfold Zzs;have h1:=h.n0;have h2:Ef P P.length≤256:=by have:=Ss P P.length;rw[h.len]at this⊢;omega
 have h3:Ef P k≤256:=by have:=Ss P k;rw[h.len]at this;omega
 have h4:l.getD k 0≤1114111:=by
  rw[Zfr,Zz b.lt];exact(hs _ (Zci b.lt)).2
 have h5:(l.getD k 0-n)*((Ef P P.length:Int)+1)≤1114111*257:=by
  have h0:=h.low k b.free;exact Zc4 (by omega) (by omega) (by omega) (by omega)
 omega
theorem Zpt{l:List Int}{P:List Bool}{n:Int}{i k:Nat}(h:Zi5 l P n i)(b:Zkg l P l.length k):Zi5 l (P.set k true) (l.getD k 0) (Ef P k+1):=by
 have hk:k<P.length:=by rw[h.len];exact b.lt
 refine⟨by rw[Zf];exact h.len,Int.le_trans h.n0 (h.low k b.free),fun j hj=>?_,?_,fun j hj e=>?_⟩
 ·obtain⟨_,hj⟩:=Sj hj;exact b.min j (by rw[← h.len];exact(Zr.1 hj).1) hj
 ·rw[Zf,Me b.free hk (Ym _)];have:=Iv P (Nat.le_of_lt hk);omega
 obtain⟨hne,hj⟩:=Sj hj;have hjl:=(Zr.1 hj).1;rcases Zff j k with h1|h1
 ·have:=b.fst j h1 hj;omega
 rw[Me b.free (by omega) (by omega)];have:=Iv P h1;omega
def Ik(P:List Bool):Nat:=P.count false
theorem Nz{P:List Bool}{k:Nat}(h:P[k]?=some false):Ik (P.set k true)<Ik P:=by
 unfold Ik;obtain⟨hk,e⟩:=Zr.1 h;rw[List.count_set hk,e];have:0<P.count false:=List.count_pos_iff.2 (by rw[← e];exact Zci hk);simp;omega
theorem Zsf{w:World}{S:Nat→Prop}{v:Value}{P:List Bool}(h:RdE Su w S v P){j:Nat}{b:Bool}(hj:P[j]?=some b) :
 ∃ g o c,v=.slice (some ⟨g,o,none⟩) P.length c∧P.length≤c∧c≤maxLen∧S g∧g<w.heap.size∧w.cell? ⟨g,o+j,none⟩=some (.bool b):=by
 obtain⟨g,o,c,h1,h2,h3,h4,h5,h6⟩:=Rd.at_ h (Zr.1 hj).1;exact⟨g,o,c,h1,h2,h3,h4,h5,h6 j _ (Lg hj)⟩
theorem Ft{l:List Int}{j:Nat}{x:Int}(h:l[j]?=some x):l.getD j 0=x:=by rw[Zfr,h];rfl
def Found(l:List Int)(P:List Bool)(i:Nat)(a:Int):Prop:=(a = -1∧∀ j,j<i→P[j]?≠some false)∨∃ k:Nat,a=(k:Int)∧Zkg l P i k
theorem Zv4{l:List Int}{P:List Bool}{i:Nat}{a:Int}(h:Found l P i a)(hb:P[i]?=some true):Found l P (i+1) a:=by
 rcases h with⟨h1,h2⟩ | ⟨k,h1,h2⟩
 ·refine .inl ⟨h1,fun j hj=>?_⟩;rcases Zeq (Ze5.1 hj)with h|h
  ·exact h2 j h
  subst h;rw[hb];simp
 refine .inr ⟨k,h1,Nat.lt_succ_of_lt h2.lt,h2.free,fun j hj hf=>?_,h2.fst⟩;rcases Zeq (Ze5.1 hj)with h|h
 ·exact h2.min j h hf
 subst h;rw[hb]at hf;simp at hf
theorem Zrp{l:List Int}{P:List Bool}{i:Nat}(h:∀ j,j<i→P[j]?≠some false)(hb:P[i]?=some false):Found l P (i+1) (i:Int) :=
 .inr ⟨i,rfl,Nat.lt_succ_self _,hb,fun j hj hf=>by
  rcases Zeq (Ze5.1 hj)with h1|h1
  ·exact absurd hf (h j h1)
  subst h1;exact Zfn _,fun j hj hf=>absurd hf (h j hj)⟩
theorem Zv5{l:List Int}{P:List Bool}{i k:Nat}(h:Zkg l P i k)(hx:¬ l.getD i 0<l.getD k 0):Found l P (i+1) (k:Int) :=
 .inr ⟨k,rfl,Nat.lt_succ_of_lt h.lt,h.free,fun j hj hf=>by
  rcases Zeq (Ze5.1 hj)with h1|h1
  ·exact h.min j h1 hf
  subst h1;omega,h.fst⟩
theorem Zv6{l:List Int}{P:List Bool}{i k:Nat}(h:Zkg l P i k)(hb:P[i]?=some false)(hx:l.getD i 0<l.getD k 0):Found l P (i+1) (i:Int) :=
 .inr ⟨i,rfl,Nat.lt_succ_self _,hb,fun j hj hf=>by
  rcases Zeq (Ze5.1 hj)with h1|h1
  ·have:=h.min j h1 hf;omega
  subst h1;exact Zfn _,fun j hj hf=>by have:=h.min j hj hf;omega⟩
def Zt1(l:List Int)(P:List Bool)(w:World)(e:Ending)(w':World):Prop:=∃ a:Int,e=.returned (.int .i64 a)∧Found l P l.length a∧Ext w w'
theorem Zqx{S S':Nat→Prop}(v v':Value)(l:List Int)(P:List Bool)(w:World)(h:Xw w S v l)(h':RdE Su w S' v' P)(hlp:P.length=l.length)(hl:l.length≤4096):Calls prog 243 #[v,v'] w (Zt1 l P w):=by
 obtain⟨A,C,rfl,hlCC,hCC⟩:=h.shape;obtain⟨n,hnn⟩:=gnX ((l).length);have Hnn:=Y8 hnn;have Hh:=Y8 h;unfold maxLen at hCC;rw[hnn]at hlCC⊢;clear h hnn;obtain⟨B,D,rfl,hlD,hD⟩:=h'.shape;rw[hlp,Hnn.o]at hlD⊢;have Hp:=Y8 h';have Hlp:=Y8 hlp;unfold maxLen at hD;rw[Hnn.o]at hl;clear h' hlp;go_enter func243,ntmps243;go_wp2_with fail;go_loopw [10,5] (fun o a wr=>∃ (i:Nat) (z:Int),i≤n∧o=.int .i64 (i:Int)∧a=.int .i64 z∧Found l P i z∧Ext w wr) (fun o _ _=>n-(intOf o).toNat);case atStart=>exact⟨0,-1,by omega,rfl,rfl,.inl ⟨rfl,fun j hj=>by omega⟩,Yk _⟩
 obtain⟨i,z,hi,rfl,rfl,hfo,hx⟩:=hrel;have Hx:=Y8 hx;have Hfo:=Y8 hfo;clear hx hfo;by_cases hlt:i<n
 ·obtain⟨hd_i,i0_i,i1_i⟩:=LTl i n;obtain⟨x,hs_x⟩:=geX (l:=(l)) (i:=i) (by have:=Hnn.o;omega);obtain⟨g_x,o_x,c_x,hvv,_,_,_,hgl_x,a0_x⟩:=(Hh.o.ext Hx.o).get hs_x;obtain⟨rfl,-,rfl⟩:=slcX hvv;clear hvv;have Hs_x:=Y8 hs_x;clear hs_x;obtain⟨b,hb⟩:=geX (l:=P) (i:=i) (by rw[Hlp.o,Hnn.o];exact hlt);obtain⟨g2,o2,c2,hv2,_,_,_,hgl2,cb⟩:=Zsf (Hp.o.ext Hx.o) hb;obtain⟨rfl,-,rfl⟩:=slcX hv2;clear hv2;have Hb:=Y8 hb;clear hb;cases b with
  | true =>
   go_wp2_with fail;go_roundw;case rel=>exact⟨i+1,z,by omega,by go_num,rfl,Zv4 Hfo.o Hb.o,Hx.o⟩
   (simp[intOf];omega)
  | false =>
   rcases Hfo.o with⟨rfl,hno⟩ | ⟨k,rfl,hbest⟩
   ·have Hno:=Y8 hno;clear hno Hfo;go_wp2_with fail;go_roundw;case rel=>exact⟨i+1,(i:Int),by omega,by go_num,rfl,Zrp Hno.o Hb.o,Hx.o⟩
    (simp[intOf];omega)
   have hk:=hbest.lt;have Hbest:=Y8 hbest;clear hbest Hfo;have k0:decide ((k:Int)<0)=false:=Yf;have k1:(0:Int)≤(k:Int):=by omega
   have k2:(k:Int)<(n:Int):=by omega
   obtain⟨y,hy⟩:=geX (l:=l) (i:=k) (by rw[Hnn.o];omega);obtain⟨g3,o3,c3,hv3,_,_,_,_,cy⟩:=(Hh.o.ext Hx.o).get hy;simp only[Yd,Yc,Zga,Zg0,Zfw]at hv3;obtain⟨⟨rfl,rfl⟩,-,rfl⟩:=hv3;have Hy:=Y8 hy;clear hy;cases q:decide (x<y)
   ·have Hq:=Y8 (show ¬ l.getD i 0<l.getD k 0 by rw[Ft Hs_x.o,Ft Hy.o];simpa using q);go_wp2_with fail;go_roundw;case rel=>exact⟨i+1,(k:Int),by omega,by go_num,rfl,Zv5 Hbest.o Hq.o,Hx.o⟩
    (simp[intOf];omega)
   have Hq:=Y8 (show l.getD i 0<l.getD k 0 by rw[Ft Hs_x.o,Ft Hy.o];simpa using q);go_wp2_with fail;go_roundw;case rel=>exact⟨i+1,(i:Int),by omega,by go_num,rfl,Zv6 Hbest.o Hb.o Hq.o,Hx.o⟩
   (simp[intOf];omega)
 have hd_i:=GEl i n;go_wp2_with fail;go_ret;refine⟨z,rfl,?_,Hx.o⟩;have:=Hfo.o
 rwa [show i=l.length by rw[Hnn.o];omega]at this
def boolRow(n:Nat):Array Value:=madeCells #[.bool false] n
theorem Fc(n:Nat):(boolRow n).toList=(List.replicate n false).map Value.bool:=by
 unfold boolRow madeCells;apply Zce
 ·simp
 intro i h1 h2;simp[Nat.mod_one]
theorem Zup(n:Nat)(hn:n≤4096)(w:World):(Instr.makeSlice 117 (.int .i64 (n:Int)) (.int .i64 (n:Int))).run prog w=.ok (.slice (some ⟨w.heap.size,0,none⟩) n n) (w.alloc (.cells (boolRow n) 4)):=by
 obtain⟨i0,hi,hz0,hz1,hz2⟩:=Zgl J9;have h:=run_make w 117 4 i0 _ Zzo hi hz0 .i64 .i64 n n (by omega) (by omega) (by rw[hz2];omega) (by omega);simp only[Zej,hz1,Zck]at h;exact h
theorem Zq7(w:World)(n:Nat)(hn:n≤4096):Own Su (w.alloc (.cells (boolRow n) 4)) w.heap.size (.slice (some ⟨w.heap.size,0,none⟩) n n) (List.replicate n false):=by
 refine⟨by rw[Su.len],.inr ⟨w.heap.size,n,boolRow n,by rw[Z2],Ym _,Zg3 w _,by rw[Z2];exact Ym _,by unfold maxLen;omega,?_,?_⟩⟩
 ·rw[← Zdw,Fc];simp[Su]
 rw[Fc];show _=(List.replicate n false).map Value.bool;rw[Zm (by simp[Su])]
def Zo9(w:World)(e:Ending)(w':World):Prop:=∃ (s:ByteArray) (x:Int),e=.returned (.tuple #[.string s,.int .i64 x])∧s.size≤100000000000∧Ext w w'
theorem Zyz{P:List Bool}{x k:Nat}{b:Bool}(h:P[x]?=some b):Ef P (min (x+1) k)=Ef P (min x k)+(if b=true∧x<k then 1 else 0):=by
 by_cases hk:x<k
 ·rw[Zef (by omega),Zef (by omega),Kw h];cases b<;>simp[hk]
 rw[Zec (by omega),Zec (by omega),Zgq (fun q=>hk q.2),Zfu]
theorem Zn4{S:Nat→Prop}(v:Value)(l:List Int)(w:World)(h:Xw w S v l):Calls prog 223 #[v] w (Zo9 w):=by
 obtain⟨A,C,rfl,hlCC,hCC⟩:=h.shape;obtain⟨n,hnn⟩:=gnX ((l).length);have Hnn:=Y8 hnn;have Hh:=Y8 h;unfold maxLen at hCC;rw[hnn]at hlCC⊢;clear h hnn;go_enter func223,ntmps223;by_cases hn:n≤256
 ·have d1:decide ((256:Int)<(n:Int))=false:=Yf;have k2:=Zup n (by omega);go_wp2_with fail;obtain⟨G,hG⟩:=gnX (w.heap.size);have Ho0:=Y8 (Zq7 w n (by omega));rw[hG]at Ho0⊢;have HG:=Y8 hG;clear hG k2;go_loopw [26,4] (fun o s wr=>∃ (i:Nat) (u:ByteArray) (P:List Bool),i≤n∧o=.int .i64 (i:Int)∧s=.string u∧u.size≤i∧P.length=n∧Own Su wr G (.slice (some ⟨G,0,none⟩) n n) P∧(∀ j,j<i→P[j]?=some false→128≤l.getD j 0)∧(∀ c∈l.take i,0≤c∧c≤1114111)∧Ext w wr) (fun o _ _=>n-(intOf o).toNat);case atStart=>exact⟨0,⟨#[]⟩,List.replicate n false,by omega,rfl,rfl,by show 0≤0;omega,by simp,Ho0.o,fun j hj=>by omega,by simp,by have:=(Yk w).alloc (.cells (boolRow n) 4);exact this⟩
  clear Ho0;obtain⟨i,u,P,hi,rfl,rfl,hu,hP,ho,hlo,hsc,hx⟩:=hrel;have Hx:=Y8 hx;have Ho:=Y8 ho;have HP:=Y8 hP;have Hlo:=Y8 hlo;have Hsc:=Y8 hsc;clear hx ho hP hlo hsc;by_cases hlt:i<n
  ·obtain⟨hd_i,i0_i,i1_i⟩:=LTl i n;obtain⟨x,hs_x⟩:=geX (l:=(l)) (i:=i) (by have:=Hnn.o;omega);obtain⟨g_x,o_x,c_x,hvv,_,_,_,hgl_x,a0_x⟩:=(Hh.o.ext Hx.o).get hs_x;obtain⟨rfl,-,rfl⟩:=slcX hvv;clear hvv;have Hs_x:=Y8 hs_x;clear hs_x;cases hs:Zw1 x
   ·go_wp2_with (go_at_call 143;refine(Kq _ _).mono ?_;rintro e w' ⟨rfl,rfl⟩);go_ret2;exact⟨_,_,rfl,by show 0≤_;omega,Hx.o⟩
   have hx0:0≤x∧x≤1114111:=by simp[Zw1]at hs;omega
   have Hx0:=Y8 hx0;have hcn:∀ c∈l.take (i+1),0≤c∧c≤1114111:=by
    rw[Wq Hs_x.o];intro c hc;rcases Zj.1 hc with h1|h1
    ·exact Hsc.o c h1
    rw[Zi.1 h1];exact Hx0.o
   have Hcn:=Y8 hcn;clear hcn hx0;by_cases ha:x<128
   ·have d2:decide (x<128)=true:=Ye ha;have hcv:=fun w:World=>Qg (w:=w) [x] 1 rfl _ rfl
    simp only[Zg4,Zfv]at hcv;obtain⟨bz,hbz⟩:=gnX (bs (u8L [x]));have hbs:bz.size=1:=by rw[← hbz];rfl
    rw[hbz]at hcv;have hus:¬ 9223372036854775807<u.size+bz.size:=by omega
    have Hbs:=Y8 hbs;clear hbz hbs ha;have ho2:=Ho.o.ext ((Yk _).alloc (.cells #[.int .u8 (x%256)] 5));have hP2:i<P.length:=by rw[HP.o];exact hlt
    have hgb:=ho2.blk.2;have htw:=ho2.thaw i;obtain⟨b0,hb0⟩:∃ b0,P[i]?=some b0:=⟨P[i],Zz hP2⟩;have hc0:=ho2.at_ (Lg hb0);have Ho3:=Y8 (ho2.put rfl hP2 true (u:=.bool true) rfl);clear ho2 hb0;go_wp2_with (go_at_call 143;refine(Kq _ _).mono ?_;rintro e w' ⟨rfl,rfl⟩);go_roundw;case rel =>
     refine⟨i+1,_,P.set i true,by omega,by go_num,rfl,by simp;rw[Hbs.o];omega,by rw[Zf];exact HP.o,Ho3.o,fun j hj hf=>?_,Hcn.o,Y0 (Hx.o.alloc _) (by show w.heap.size≤G;rw[HG.o];exact Ym _) _⟩;obtain⟨hne,hf⟩:=Sj hf;exact Hlo.o j (by omega) hf
    case measure=>(simp[intOf];omega)
   have d2:decide (x<128)=false:=Yf ha;have Ha:=Y8 ha;clear ha;go_wp2_with (go_at_call 143;refine(Kq _ _).mono ?_;rintro e w' ⟨rfl,rfl⟩);go_roundw;case rel =>
    refine⟨i+1,_,P,by omega,by go_num,rfl,by omega,HP.o,Ho.o,fun j hj hf=>?_,Hcn.o,Hx.o⟩;rcases Zeq (Ze5.1 hj)with h1|h1
    ·exact Hlo.o j h1 hf
    rw[h1,Ft Hs_x.o];have:=Ha.o;omega
   case measure=>(simp[intOf];omega)
  have hd_i:=GEl i n;obtain rfl:i=n:=by omega
  have Hsc2:=Y8 (show ∀ c∈l,0≤c∧c≤1114111 by have:=Hsc.o;rwa [Zm (by rw[Hnn.o];omega)]at this);have Hpu:=Y8 (show Zi5 l P 128 0 from⟨by rw[HP.o,Hnn.o],by omega,fun j hj=>Hlo.o j (by rw[← HP.o];exact(Zr.1 hj).1) hj,by omega,fun j _ _=>by omega⟩);clear Hsc Hlo hlt hd_i hi;have Hfr:=Y8 (show Ik P≤i by unfold Ik;rw[← HP.o];exact List.count_le_length);cases hE:u.toList.isEmpty
  all_goals
   go_wp2_with fail;clear hE;rename World=>wo
   have Hxo:=Y8 Hx.o;go_loopg [4,8,9,10,11] (Ik P) (fun gk s nn ii bi fi wr=>∃ (u:ByteArray) (m:Int) (q:Nat) (y:Int) (b:Bool) (P:List Bool),s=.string u∧nn=.int .i64 m∧ii=.int .i64 (q:Int)∧bi=.int .i64 y∧fi=.bool b∧P.length=i∧Own Su wr G (.slice (some ⟨G,0,none⟩) i i) P∧Zi5 l P m q∧Ik P=gk∧gk≤i∧u.size+gk*300000002≤258+i*300000002∧Ext w wr);case atStart=>exact⟨_,128,0,72,true,P,rfl,rfl,rfl,rfl,rfl,HP.o,Ho.o,Hpu.o,rfl,Hfr.o,by first|(have:=Hfr.o;omega)|(have:=Hfr.o;rw[Yl];show u.size+1+_≤_;omega),Hx.o⟩
   clear Ho HP Hpu Hfr Hx Hxo;obtain⟨u,m,q,y,b,P,rfl,rfl,rfl,rfl,rfl,hP,ho,hpu,hfr,hgi,hu,hx⟩:=hrel;have Hx:=Y8 hx;have Ho:=Y8 ho;have HP:=Y8 hP;have Hpu:=Y8 hpu;have Hfr:=Y8 hfr;have Hu:=Y8 hu;have Hgi:=Y8 hgi;clear hx ho hP hpu hfr hu hgi;have HhI:=Y8 (show Xw w S (.slice A i C) l by have:=Hh.o;rwa [Hnn.o]at this);rename World=>wo
   go_wp2_with fail;refine(Zqx _ _ l P _ (HhI.o.ext Hx.o) Ho.o.rd (by rw[HP.o,Hnn.o]) (by rw[Hnn.o];omega)).mono ?_;rintro e w1 ⟨a,rfl,hfo,hx1⟩;have Hx1:=Y8 (Hx.o.trans hx1);have Ho1:=Y8 (Ho.o.ext hx1);clear hx1;rcases hfo with⟨rfl,hall⟩ | ⟨k,rfl,hbest⟩
   ·go_wp2_with fail;go_ret2;refine⟨u,0,rfl,?_,Hx1.o⟩;have:=Hu.o;have:=Hgi.o;omega
   have hk:k<i:=by rw[← Hnn.o];exact hbest.lt
   have Hbest:=Y8 hbest;clear hbest;have k0:decide ((k:Int)<0)=false:=Yf;have k1:(0:Int)≤(k:Int):=by omega
   have k2:(k:Int)<(i:Int):=by omega
   go_wp2_with fail;go_loopw [58,13,14] (fun o h j wr=>∃ x:Nat,x≤i∧o=.int .i64 (x:Int)∧h=.int .i64 ((Ef P x:Nat):Int)∧j=.int .i64 ((Ef P (min x k):Nat):Int)∧Ext w1 wr) (fun o _ _ _=>i-(intOf o).toNat);case atStart=>exact⟨0,by omega,rfl,rfl,by rw[Nat.zero_min];rfl,Yk _⟩
   obtain⟨x,hxi,rfl,rfl,rfl,hx⟩:=hrel;have Hx2:=Y8 hx;clear hx;obtain⟨H,hH⟩:=gnX (Ef P x);obtain⟨J,hJ⟩:=gnX (Ef P (min x k));have hH1:H≤i:=by rw[← hH];exact Zgo (Ss P x) (by rw[HP.o];exact Ym _)
   have hJ1:J≤i:=by rw[← hJ];exact Zgo (Ss P _) (by rw[HP.o];exact Ym _)
   rw[hH,hJ];have HH:=Y8 hH;have HJ:=Y8 hJ;clear hH hJ;by_cases hlt:x<i
   ·obtain⟨hd_x,i0_x,i1_x⟩:=LTl x i;obtain⟨b0,hb0⟩:=geX (l:=P) (i:=x) (by rw[HP.o];exact hlt);have hc0:=(Ho1.o.ext Hx2.o).at_ (Lg hb0);have Hb0:=Y8 hb0;clear hb0;cases b0 with
    | false =>
     go_wp2_with fail;go_roundw;case rel=>exact⟨x+1,by omega,by go_num,by rw[Kw Hb0.o,HH.o];simp,by rw[Zyz Hb0.o,HJ.o];simp,Hx2.o⟩
     (simp[intOf];omega)
    | true =>
     by_cases hxk:x<k
     ·have e1:=LTd x k;go_wp2_with fail;go_roundw;case rel=>exact⟨x+1,by omega,by go_num,by rw[Kw Hb0.o,HH.o];simp,by rw[Zyz Hb0.o,HJ.o];simp[hxk],Hx2.o⟩
      (simp[intOf];omega)
     have e1:=GEl x k;go_wp2_with fail;go_roundw;case rel=>exact⟨x+1,by omega,by go_num,by rw[Kw Hb0.o,HH.o];simp,by rw[Zyz Hb0.o,HJ.o];simp[hxk],Hx2.o⟩
     (simp[intOf];omega)
   have hd_x:=GEl x i;obtain rfl:x=i:=by omega
   rw[Zec (by omega)]at HJ;have hbl:Zkg l P l.length k:=Hbest.o;have hv0:=Zli Hpu.o hbl;have hv1:=Zlh Hpu.o Hsc2.o hbl (by rw[Hnn.o];omega);have hsp:=Zpt Hpu.o hbl;have hms:=Hpu.o.low k hbl.free;have hms2:=Hpu.o.n0;have hq1:=Hpu.o.cnt;unfold Zzs at hv0 hv1;rw[HP.o]at hv0 hv1 hq1;rw[HH.o,HJ.o]at hv0 hv1;rw[HH.o]at hq1;rw[HJ.o]at hsp;obtain⟨y0,hy⟩:=geX (l:=l) (i:=k) (by rw[Hnn.o];omega);rw[Ft hy]at hv0 hv1 hsp hms;have hyb:=Hsc2.o y0 (Zy hy);obtain⟨g3,o3,c3,hv3,_,_,_,hg3,cy⟩:=(HhI.o.ext (Hx1.o.trans Hx2.o)).get hy;obtain⟨rfl,-,rfl⟩:=slcX hv3;clear hv3;obtain⟨d,hd⟩:∃ d:Nat,y0-m=(d:Int):=⟨(y0-m).toNat,by rw[Zew (by omega)]⟩;obtain⟨H1,hH1e⟩:=gnX (H+1);obtain⟨M,hM⟩:=gnX (d*H1);have hM2:(d:Int)*((H:Int)+1)=(M:Int):=by rw[← hM,← hH1e];simp
   rw[hd,hM2]at hv0 hv1;have hMb:M≤1114111*257:=by rw[← hM];exact Zdf (by omega) (by omega)
   obtain⟨V,hV⟩:∃ V:Nat,(M:Int)+(J:Int)-(q:Int)=(V:Int):=⟨((M:Int)+(J:Int)-(q:Int)).toNat,by rw[Zew hv0]⟩;have r1:IntKind.i64.wrap (y0-m)=(d:Int):=by rw[Yp _ (by omega)];exact hd
   have r2:IntKind.i64.wrap ((H:Int)+1)=(H1:Int):=by rw[Yp _ (by omega)];omega
   have r3:IntKind.i64.wrap ((d:Int)*(H1:Int))=(M:Int):=by rw[← Zcc,hM,Yp _ (by omega)]
   have r4:IntKind.i64.wrap ((M:Int)+(J:Int))=(M:Int)+(J:Int):=Yp _ (by omega);have r5:IntKind.i64.wrap ((M:Int)+(J:Int)-(q:Int))=(V:Int):=by rw[Yp _ (by omega)];omega
   have r6:IntKind.i64.wrap ((J:Int)+1)=(J:Int)+1:=Yp _ (by omega);have hVb:V≤300000000:=by omega
   have Hy:=Y8 hy;have Hsp:=Y8 hsp;clear hy hsp hd hM2 hM hV hv0 hv1 hms hms2 hyb hq1 hlt hd_x;go_wp2_with fail;refine(Zm4 V (by omega) y _).mono ?_;rintro e w3 ⟨s3,rfl,hs3,hx3⟩;have hus:¬ 9223372036854775807<u.size+s3.size:=by have:=Hu.o;have:=Hgi.o;omega
   go_wp2_with fail;refine(Te V H1 (by omega) (by omega) (by omega) b _).mono ?_;rintro e w4 ⟨y4,rfl,hx4⟩;have hx04:=Hx2.o.trans (hx3.trans hx4);have ho4:=Ho1.o.ext hx04;have hgb:=ho4.blk.2;have htw:=ho4.thaw k;have hP2:k<P.length:=by rw[HP.o];exact hk
   have hc4:=ho4.at_ (Lg Hbest.o.free);have hy4:=(hx3.trans hx4).cell (p:=⟨g3,o3+k,none⟩) hg3;rw[cy]at hy4;have hne:g3≠G:=by
    obtain⟨g4,o4,c4,hv4,_,_,_,hg4,_⟩:=HhI.o.get Hy.o;simp only[Yd,Yc,Zga]at hv4;have:=HG.o;omega
   have Ho5:=Y8 (ho4.put rfl hP2 true (u:=.bool true) rfl);have Hxf:=Y8 (Hx1.o.trans hx04);clear ho4 hx04;go_wp2_with fail;go_roundg (Ik (P.set k true));case measure=>rw[← Hfr.o];exact Nz Hbest.o.free
   case rel =>
    refine⟨_,y0,J+1,y4,false,P.set k true,rfl,rfl,by go_num,rfl,rfl,by rw[Zf];exact HP.o,Ho5.o,Hsp.o,rfl,?_,?_,Y0 Hxf.o (by show w.heap.size≤G;rw[HG.o];exact Ym _) _⟩
    ·have:=Nz Hbest.o.free;have:=Hfr.o;have:=Hgi.o;omega
    have h1:=Nz Hbest.o.free;have h2:=Hfr.o;have h3:=Hu.o;rw[Yl];omega
 have d1:decide ((256:Int)<(n:Int))=true:=Ye;go_wp2_with fail;go_ret2;exact⟨_,_,rfl,by show 0≤_;omega,Yk _⟩
def Zl8(l:List Int):Bool:=l.all fun c=>decide (0≤c)&&decide (c≤127)
theorem Zsl{l:List Int}{i:Nat}{x:Int}(h:l[i]?=some x)(hx:x<0∨127<x):Zl8 l=false:=by
 unfold Zl8;rw[List.all_eq_false];exact⟨x,Zy h,by simp;omega⟩
theorem Es{S:Nat→Prop}(v:Value)(l:List Int)(w:World)(h:Xw w S v l):Calls prog 212 #[v] w fun e w'=>e=.returned (.bool (Zl8 l))∧Ext w w':=by
 obtain⟨A,C,rfl,hlCC,hCC⟩:=h.shape;obtain⟨n,hnn⟩:=gnX ((l).length);have Hnn:=Y8 hnn;have Hh:=Y8 h;unfold maxLen at hCC;rw[hnn]at hlCC⊢;clear h hnn;go_enter func212,ntmps212;go_wp2_with fail;go_loopw [7] (fun o wr=>∃ i:Nat,i≤n∧o=.int .i64 (i:Int)∧(∀ c∈l.take i,0≤c∧c≤127)∧Ext w wr) (fun o _=>n-(intOf o).toNat);case atStart=>exact⟨0,by omega,rfl,by simp,Yk _⟩
 obtain⟨i,hi,rfl,ha,hx⟩:=hrel;have Hx:=Y8 hx;have Ha:=Y8 ha;clear hx ha;by_cases hlt:i<n
 ·obtain⟨hd_i,i0_i,i1_i⟩:=LTl i n;obtain⟨x,hs_x⟩:=geX (l:=(l)) (i:=i) (by have:=Hnn.o;omega);obtain⟨g_x,o_x,c_x,hvv,_,_,_,hgl_x,a0_x⟩:=(Hh.o.ext Hx.o).get hs_x;obtain⟨rfl,-,rfl⟩:=slcX hvv;clear hvv;have Hs_x:=Y8 hs_x;clear hs_x;by_cases h0:x<0∨127<x
  ·have Hb:=Y8 (Zsl Hs_x.o h0);rcases h0 with h0|h0
   ·have d1:decide (x<0)=true:=Ye h0;go_wp2_with fail;go_ret;exact⟨by rw[Hb.o];rfl,Hx.o⟩
   have d1:decide (x<0)=false:=Yf;have d2:decide (127<x)=true:=Ye h0;go_wp2_with fail;go_ret;exact⟨by rw[Hb.o];rfl,Hx.o⟩
  have d1:decide (x<0)=false:=Yf;have d2:decide (127<x)=false:=Yf;have H0:=Y8 h0;clear h0;go_wp2_with fail;go_roundw;case rel =>
   refine⟨i+1,by omega,by go_num,?_,Hx.o⟩;rw[Wq Hs_x.o];intro c hc;rcases Zj.1 hc with h1|h1
   ·exact Ha.o c h1
   rw[Zi.1 h1];have:=H0.o;omega
  case measure=>(simp[intOf];omega)
 have hd_i:=GEl i n;go_wp2_with fail;go_ret;refine⟨?_,Hx.o⟩;have hb:Zl8 l=true:=by
  unfold Zl8;rw[Zfl];intro c hc;have:=Ha.o;rw[Zm (by rw[Hnn.o];omega)]at this;have:=this c hc;simp;omega
 rw[hb];rfl
theorem E6(z:Nat)(h1:z≤255)(w:World) :
 (convert 224 9 (.slice (some ⟨w.heap.size,0,none⟩) 1 1)).run prog (w.alloc (.cells #[.int .u8 (z:Int)] 5))=.ok (.string (bs (u8L [(z:Int)]))) (w.alloc (.cells #[.int .u8 (z:Int)] 5)):=by
 have:=Qg (w:=w) [(z:Int)] 1 rfl _ rfl;simp only[Zg4,Zfv]at this;rw[show(z:Int)%256=(z:Int) by omega]at this;exact this
def Zk6(n:Nat)(w:World)(e:Ending)(w':World):Prop:=∃ t:ByteArray,e=.returned (.string t)∧t.size=n∧Ext w w'
theorem Nf(s:ByteArray)(w:World)(hs:s.size≤100000):Calls prog 228 #[.string s] w (Zk6 s.size w):=by
 obtain⟨n,hn⟩:=gnX (s.size);rw[hn]at hs⊢;have Hn:=Y8 hn;go_enter func228,ntmps228;go_wp2_with fail;go_loopw [4,3] (fun o t wr=>∃ (i:Nat) (u:ByteArray),i≤n∧o=.int .i64 (i:Int)∧t=.string u∧u.size=i∧Ext w wr) (fun o _ _=>n-(intOf o).toNat);case atStart=>exact⟨0,⟨#[]⟩,by omega,rfl,rfl,rfl,Yk _⟩
 obtain⟨i,u,hi,rfl,rfl,hu,hx⟩:=hrel;have Hu:=Y8 hu;have hus0:u.size≤100000:=by omega
 clear hu;by_cases hlt:i<n
 ·have hd:=LTd i n;have hlt':i<s.size:=by rw[Hn.o];exact hlt
  obtain⟨b,hb⟩:∃ b:Nat,(s[i]'hlt').toNat=b:=⟨_,rfl⟩;have hb2:b≤255:=by rw[← hb];have:=(s[i]'hlt').toNat_lt;omega
  by_cases h1:65≤b
  ·have d1:decide ((65:Int)≤(b:Int))=true:=Ye;by_cases h2:b≤90
   ·have d2:decide ((b:Int)≤90)=true:=Ye;obtain⟨c,hc⟩:=gnX (b+32);have r1:IntKind.u8.wrap ((b:Int)+32)=(c:Int):=by rw[Zf7 _ (by omega)];omega
    have hcv:=fun w=>E6 c (by omega) w
    obtain⟨bz,hbz⟩:=gnX (bs (u8L [(c:Int)]));have hbs:bz.size=1:=by rw[← hbz];rfl
    rw[hbz]at hcv;have hus:¬ 9223372036854775807<u.size+bz.size:=by omega
    clear hbz;go_wp2_with fail;go_roundw;case rel=>exact⟨i+1,_,by omega,by go_num,rfl,by rw[Yl,Hu.o,hbs],hx.alloc _⟩
    (simp[intOf];omega)
   have d2:decide ((b:Int)≤90)=false:=Yf;have hcv:=fun w=>E6 b (by omega) w
   obtain⟨bz,hbz⟩:=gnX (bs (u8L [(b:Int)]));have hbs:bz.size=1:=by rw[← hbz];rfl
   rw[hbz]at hcv;have hus:¬ 9223372036854775807<u.size+bz.size:=by omega
   clear hbz;go_wp2_with fail;go_roundw;case rel=>exact⟨i+1,_,by omega,by go_num,rfl,by rw[Yl,Hu.o,hbs],hx.alloc _⟩
   (simp[intOf];omega)
  have d1:decide ((65:Int)≤(b:Int))=false:=Yf;have hcv:=fun w=>E6 b (by omega) w
  obtain⟨bz,hbz⟩:=gnX (bs (u8L [(b:Int)]));have hbs:bz.size=1:=by rw[← hbz];rfl
  rw[hbz]at hcv;have hus:¬ 9223372036854775807<u.size+bz.size:=by omega
  clear hbz;go_wp2_with fail;go_roundw;case rel=>exact⟨i+1,_,by omega,by go_num,rfl,by rw[Yl,Hu.o,hbs],hx.alloc _⟩
  (simp[intOf];omega)
 have hd:=GEl i n;go_wp2_with fail;go_ret;exact⟨u,rfl,by have:=Hu.o;omega,hx⟩
def Zhy(n:Nat)(w:World)(e:Ending)(w':World):Prop:=∃ b:Bool,e=.returned (.bool b)∧(b=true→4≤n)∧Ext w w'
theorem Zkx(s:ByteArray)(w:World)(hs:s.size≤100000):Calls prog 213 #[.string s] w (Zhy s.size w):=by
 go_enter func213,ntmps213;by_cases h4:4≤s.size
 ·have d1:decide ((4:Int)≤(s.size:Int))=true:=Ye;go_wp2_with (go_at_call 228;refine(Nf _ _ (by simp;omega)).mono ?_;rintro e w1 ⟨t,rfl,ht,hx1⟩);go_ret;exact⟨_,rfl,fun _=>h4,hx1⟩
 have d1:decide ((4:Int)≤(s.size:Int))=false:=Yf;go_wp2_with fail;go_ret;exact⟨false,rfl,fun h=>absurd h (by decide),Yk _⟩
def Zk4(w:World)(e:Ending)(w':World):Prop:=∃ (s:ByteArray) (x:Int),e=.returned (.tuple #[.string s,.int .i64 x])∧s.size≤63∧(x=0→1≤s.size)∧Ext w w'
theorem Ia{S:Nat→Prop}(v:Value)(l:List Int)(w:World)(h:Xw w S v l)(hll:l.length≤100000):Calls prog 205 #[v] w (Zk4 w):=by
 obtain⟨A,C,rfl,hlCC,hCC⟩:=h.shape;obtain⟨n,hnn⟩:=gnX ((l).length);have Hnn:=Y8 hnn;have Hh:=Y8 h;unfold maxLen at hCC;rw[hnn]at hlCC⊢;clear h hnn;rw[Hnn.o]at hll;have HhI:=Y8 (show Xw w S (.slice A n C) l by have:=Hh.o;rwa [Hnn.o]at this);go_enter func205,ntmps205;by_cases h0:n=0
 ·subst h0;go_wp2_with fail;go_ret2;exact⟨_,_,rfl,by show 0≤63;omega,fun h=>absurd h (by decide),Yk _⟩
 have d0:((n:Int)==0)=false:=by simp;omega
 have d0b:(n==0)=false:=by simp;omega
 have Hn0:=Y8 h0;clear h0;cases hb:Zl8 l
 ·have A1:=fun(w1:World) (hx:Ext w w1)=>Zn4 _ l w1 (HhI.o.ext hx)
  go_wp2_with (go_at_call 212;refine(Es _ l _ HhI.o).mono ?_;rintro e w1 ⟨rfl,hx1⟩;rw[hb]);refine(A1 _ hx1).mono ?_;rintro e w2 ⟨p,x,rfl,hp,hx2⟩;have Hx:=Y8 (hx1.trans hx2);clear hx1 hx2 A1;by_cases hx0:x=0
  ·subst hx0;have hus:¬ 9223372036854775807<4+p.size:=by omega
   by_cases h63:p.size≤59
   ·have d1:decide ((63:Int)<(((⟨#[120,110,45,45]⟩:ByteArray)++p).size:Int))=false:=Yf (by rw[Yl];show ¬ (63:Int)<((4+p.size:Nat):Int);omega);have d2:decide ((63:Int)<(4:Int)+(p.size:Int))=false:=Yf;go_wp2_with fail;go_ret2;exact⟨_,_,rfl,by rw[Yl];show 4+p.size≤63;omega,fun _=>by rw[Yl];show 1≤4+p.size;omega,Hx.o⟩
   have d2:decide ((63:Int)<(4:Int)+(p.size:Int))=true:=Ye;go_wp2_with fail;go_ret2;exact⟨_,_,rfl,by show 0≤63;omega,fun h=>absurd h (by decide),Hx.o⟩
  have d1:(!(x==0))=true:=by simp[hx0]
  have d2:(x !=0)=true:=d1;have Hx0:=Y8 hx0;clear hx0;go_wp2_with fail;go_ret2;exact⟨_,x,rfl,by show 0≤63;omega,fun h=>absurd h Hx0.o,Hx.o⟩
 go_wp2_with (go_at_call 212;refine(Es _ l _ HhI.o).mono ?_;rintro e w1 ⟨rfl,hx1⟩;rw[hb]);have Hx1:=Y8 hx1;clear hx1;go_loopw [16,4] (fun o s wr=>∃ (i:Nat) (u:ByteArray),i≤n∧o=.int .i64 (i:Int)∧s=.string u∧u.size=i∧Ext w wr) (fun o _ _=>n-(intOf o).toNat);case atStart=>exact⟨0,⟨#[]⟩,by omega,rfl,rfl,rfl,Hx1.o⟩
 obtain⟨i,u,hi,rfl,rfl,hu,hx⟩:=hrel;have Hx:=Y8 hx;have Hu:=Y8 hu;have hus0:u.size≤100000:=by omega
 clear hx hu Hx1;by_cases hlt:i<n
 ·obtain⟨hd_i,i0_i,i1_i⟩:=LTl i n;obtain⟨x,hs_x⟩:=geX (l:=(l)) (i:=i) (by have:=Hnn.o;omega);obtain⟨g_x,o_x,c_x,hvv,_,_,_,hgl_x,a0_x⟩:=(HhI.o.ext Hx.o).get hs_x;obtain⟨rfl,-,rfl⟩:=slcX hvv;clear hvv;have Hs_x:=Y8 hs_x;clear hs_x;have hcv:=fun w:World=>Qg (w:=w) [x] 1 rfl _ rfl
  simp only[Zg4,Zfv]at hcv;obtain⟨bz,hbz⟩:=gnX (bs (u8L [x]));have hbs:bz.size=1:=by rw[← hbz];rfl
  rw[hbz]at hcv;have hus:¬ 9223372036854775807<u.size+bz.size:=by omega
  clear hbz;go_wp2_with fail;go_roundw;case rel=>exact⟨i+1,_,by omega,by go_num,rfl,by rw[Yl,Hu.o,hbs],Hx.o.alloc _⟩
  (simp[intOf];omega)
 have hd_i:=GEl i n;by_cases h63:u.size≤63
 ·have d1:decide ((63:Int)<(u.size:Int))=false:=Yf;have d2:decide (63<u.size)=false:=Yf;go_wp2_with fail;go_ret2;exact⟨_,_,rfl,h63,fun _=>by have:=Hu.o;have:=Hn0.o;omega,Hx.o⟩
 have d1:decide ((63:Int)<(u.size:Int))=true:=Ye;have d2:decide (63<u.size)=true:=Ye;go_wp2_with fail;go_ret2;exact⟨_,_,rfl,by show 0≤63;omega,fun h=>absurd h (by decide),Hx.o⟩
def Zju(w:World)(e:Ending)(w':World):Prop:=∃ v:Int,e=.returned (.int .i64 v)∧-1≤v∧v≤35∧w=w'
theorem Zog(b:Nat)(hb:b≤255)(w:World):Calls prog 263 #[.int .u8 (b:Int)] w (Zju w):=by
 have hr:(0≤b∧b≤47)∨(48≤b∧b≤57)∨(58≤b∧b≤64)∨(65≤b∧b≤90)∨(91≤b∧b≤96)∨(97≤b∧b≤122)∨(123≤b∧b≤255):=by omega
 rcases hr with⟨h0,h1⟩ | ⟨h0,h1⟩ | ⟨h0,h1⟩ | ⟨h0,h1⟩ | ⟨h0,h1⟩ | ⟨h0,h1⟩ | ⟨h0,h1⟩
 ·have e0:decide ((97:Int)≤(b:Int))=false:=Yf;have e1:decide ((b:Int)≤122)=true:=Ye;have e2:decide ((65:Int)≤(b:Int))=false:=Yf;have e3:decide ((b:Int)≤90)=true:=Ye;have e4:decide ((48:Int)≤(b:Int))=false:=Yf;have e5:decide ((b:Int)≤57)=true:=Ye;go_enter func263,ntmps263;go_wp2_with fail;go_ret;exact⟨_,rfl,by omega,by omega,rfl⟩
 ·have e0:decide ((97:Int)≤(b:Int))=false:=Yf;have e1:decide ((b:Int)≤122)=true:=Ye;have e2:decide ((65:Int)≤(b:Int))=false:=Yf;have e3:decide ((b:Int)≤90)=true:=Ye;have e4:decide ((48:Int)≤(b:Int))=true:=Ye;have e5:decide ((b:Int)≤57)=true:=Ye;obtain⟨c,hc⟩:=gnX (b-48);have r1:IntKind.u8.wrap ((b:Int)-48)=(c:Int):=by rw[Zf7 _ (by omega)];omega
  have r2:IntKind.i64.wrap (c:Int)=(c:Int):=Yp _ (by omega);have r3:IntKind.i64.wrap ((c:Int)+26)=(c:Int)+26:=Yp _ (by omega);have hc2:c≤25:=by omega
  have hc3:c≤9:=by omega
  clear hc;go_enter func263,ntmps263;go_wp2_with fail;go_ret;exact⟨_,rfl,by omega,by omega,rfl⟩
 ·have e0:decide ((97:Int)≤(b:Int))=false:=Yf;have e1:decide ((b:Int)≤122)=true:=Ye;have e2:decide ((65:Int)≤(b:Int))=false:=Yf;have e3:decide ((b:Int)≤90)=true:=Ye;have e4:decide ((48:Int)≤(b:Int))=true:=Ye;have e5:decide ((b:Int)≤57)=false:=Yf;go_enter func263,ntmps263;go_wp2_with fail;go_ret;exact⟨_,rfl,by omega,by omega,rfl⟩
 ·have e0:decide ((97:Int)≤(b:Int))=false:=Yf;have e1:decide ((b:Int)≤122)=true:=Ye;have e2:decide ((65:Int)≤(b:Int))=true:=Ye;have e3:decide ((b:Int)≤90)=true:=Ye;have e4:decide ((48:Int)≤(b:Int))=true:=Ye;have e5:decide ((b:Int)≤57)=false:=Yf;obtain⟨c,hc⟩:=gnX (b-65);have r1:IntKind.u8.wrap ((b:Int)-65)=(c:Int):=by rw[Zf7 _ (by omega)];omega
  have r2:IntKind.i64.wrap (c:Int)=(c:Int):=Yp _ (by omega);have hc2:c≤25:=by omega
  clear hc;go_enter func263,ntmps263;go_wp2_with fail;go_ret;exact⟨_,rfl,by omega,by omega,rfl⟩
 ·have e0:decide ((97:Int)≤(b:Int))=false:=Yf;have e1:decide ((b:Int)≤122)=true:=Ye;have e2:decide ((65:Int)≤(b:Int))=true:=Ye;have e3:decide ((b:Int)≤90)=false:=Yf;have e4:decide ((48:Int)≤(b:Int))=true:=Ye;have e5:decide ((b:Int)≤57)=false:=Yf;go_enter func263,ntmps263;go_wp2_with fail;go_ret;exact⟨_,rfl,by omega,by omega,rfl⟩
 ·have e0:decide ((97:Int)≤(b:Int))=true:=Ye;have e1:decide ((b:Int)≤122)=true:=Ye;have e2:decide ((65:Int)≤(b:Int))=true:=Ye;have e3:decide ((b:Int)≤90)=false:=Yf;have e4:decide ((48:Int)≤(b:Int))=true:=Ye;have e5:decide ((b:Int)≤57)=false:=Yf;obtain⟨c,hc⟩:=gnX (b-97);have r1:IntKind.u8.wrap ((b:Int)-97)=(c:Int):=by rw[Zf7 _ (by omega)];omega
  have r2:IntKind.i64.wrap (c:Int)=(c:Int):=Yp _ (by omega);have hc2:c≤25:=by omega
  clear hc;go_enter func263,ntmps263;go_wp2_with fail;go_ret;exact⟨_,rfl,by omega,by omega,rfl⟩
 have e0:decide ((97:Int)≤(b:Int))=true:=Ye;have e1:decide ((b:Int)≤122)=false:=Yf;have e2:decide ((65:Int)≤(b:Int))=true:=Ye;have e3:decide ((b:Int)≤90)=false:=Yf;have e4:decide ((48:Int)≤(b:Int))=true:=Ye;have e5:decide ((b:Int)≤57)=false:=Yf;go_enter func263,ntmps263;go_wp2_with fail;go_ret;exact⟨_,rfl,by omega,by omega,rfl⟩
def Zno(n a:Nat)(w:World)(e:Ending)(w':World):Prop:=∃ (v x:Int) (b:Bool),e=.returned (.tuple #[.int .i64 v,.int .i64 x,.bool b])∧(b=true→∃ (m p:Nat),v=(m:Int)∧x=(p:Int)∧m≤2147483648∧a<p∧p≤n)∧Ext w w'
theorem Zpk(s:ByteArray)(n a:Nat)(hs:s.size=n)(hn:n≤100000)(ha:a≤n)(b:Int)(w:World):Calls prog 250 #[.string s,.int .i64 (a:Int),.int .i64 b] w (Zno n a w):=by
 have Hn:=Y8 hs;go_enter func250,ntmps250;go_wp2_with fail;go_loopw [1,9,10,11] (fun o m q j wr=>∃ (p:Nat) (x y z:Int),o=.int .i64 (p:Int)∧m=.int .i64 x∧q=.int .i64 y∧j=.int .i64 z∧a≤p∧p≤n∧0≤x∧x≤2147483648∧0≤y∧y≤2147483648∧Ext w wr) (fun o _ _ _ _=>n-(intOf o).toNat);case atStart=>exact⟨a,0,1,0,rfl,rfl,rfl,rfl,Ym _,ha,by omega,by omega,by omega,by omega,Yk _⟩
 obtain⟨p,x,y,z,rfl,rfl,rfl,rfl,hp1,hp2,hx1,hx2,hy1,hy2,hx⟩:=hrel;have Hx:=Y8 hx;clear hx;by_cases hlt:p<n
 ·have d0:decide ((n:Int)≤(p:Int))=false:=Yf;have hlt':p<s.size:=by rw[Hn.o];exact hlt
  have p0:(0:Int)≤(p:Int):=by omega
  obtain⟨c,hc⟩:∃ b:Nat,(s[p]'hlt').toNat=b:=⟨_,rfl⟩;have hc2:c≤255:=by rw[← hc];have:=(s[p]'hlt').toNat_lt;omega
  go_wp2_with fail;refine(Zog c hc2 _).mono ?_;rintro e w1 ⟨d,rfl,hd1,hd2,rfl⟩;by_cases hdn:d<0
  ·have d1:decide (d<0)=true:=Ye hdn;go_wp2_with fail;go_ret3;exact⟨_,_,false,rfl,fun h=>absurd h (by decide),Hx.o⟩
  have d1:decide (d<0)=false:=Yf hdn;have m1:=Int.mul_nonneg (show 0≤d by omega) hy1;have m2:d*y≤35*2147483648:=Zc4 hd2 hy2 hy1 (by omega);obtain⟨D,hD⟩:=gnX (d*y);rw[hD]at m1 m2;have r1:IntKind.i64.wrap (d*y)=D:=by rw[hD];exact Yp _ (by omega)
  have r2:IntKind.i64.wrap (x+D)=x+D:=Yp _ (by omega);have r3:IntKind.i64.wrap ((p:Int)+1)=((p+1:Nat):Int):=by rw[Yp _ (by omega)];omega
  clear hD;go_wp2_with fail;all_goals
   refine(Zor z b _).mono ?_;rintro e w1 ⟨t,rfl,ht1,ht2,rfl⟩;have r4:IntKind.i64.wrap (36-(t:Int))=((36-t:Nat):Int):=by rw[Yp _ (by omega)];omega
   have m3:=Int.mul_nonneg hy1 (show(0:Int)≤((36-t:Nat):Int) by omega);have m4:y*((36-t:Nat):Int)≤2147483648*35:=Zc4 hy2 (by omega) (by omega) (by omega);obtain⟨U,hU⟩:=gnX (((36-t:Nat):Int));rw[hU]at r4 m3 m4;clear hU;obtain⟨D2,hD2⟩:=gnX (y*U);rw[hD2]at m3 m4;have r5:IntKind.i64.wrap (y*U)=D2:=by rw[hD2];exact Yp _ (by omega)
   clear hD2;by_cases hdt:d<(t:Int)
   ·have d2:decide (d<(t:Int))=true:=Ye hdt;go_wp2_with fail;go_ret3;refine⟨_,_,true,rfl,fun _=>⟨Int.toNat _,p+1,(Zew ?_).symm,by go_num,?_,by omega,by omega⟩,Hx.o⟩;all_goals omega
   have d2:decide (d<(t:Int))=false:=Yf hdt;go_wp2_with fail;all_goals
    go_roundw;case rel=>exact⟨p+1,_,_,_,by go_num,rfl,rfl,rfl,by omega,by omega,by omega,by omega,by omega,by omega,Hx.o⟩
    (simp[intOf];omega)
 have d0:decide ((n:Int)≤(p:Int))=true:=Ye;go_wp2_with fail;go_ret3;exact⟨_,_,false,rfl,fun h=>absurd h (by decide),Hx.o⟩
def Ec(N:Nat)(w:World)(e:Ending)(w':World):Prop:=∃ (v:Value) (l:List Int) (x:Int),e=.returned (.tuple #[v,.int .i64 x])∧RdE Ww w' (fun k=>w.heap.size≤k) v l∧l.length≤N∧Ext w w'
theorem Wx{N:Nat}{w w':World}(x:Int)(h:Ext w w'):Ec N w (.returned (.tuple #[.slice none 0 0,.int .i64 x])) w':=⟨_,[],x,rfl,Xw.nil _ _,Zgf _,h⟩
theorem Zil(w:World)(A:Option Addr)(c:Nat)(hc:c≤maxLen):RdE Ww w (fun _=>True) (.slice A 0 c) []:=⟨rfl,A,c,rfl,Zgf _,hc,fun h=>absurd h (by simp)⟩
theorem Zn2(s:ByteArray)(n:Nat)(hs:s.size=n)(w:World):Calls prog 229 #[.string s] w (Ec 2048 w):=by
 have Hn:=Y8 hs;obtain⟨B,hB⟩:=gnX (w.heap.size);have HB:=Y8 hB;clear hB;go_enter func229,ntmps229;by_cases hbig:n≤2048
 ·have d0:decide ((2048:Int)<(n:Int))=false:=Yf;go_wp2_with fail;go_loopw [5,4] (fun o b wr=>∃ k q:Nat,1≤k∧k≤n+1∧o=.int .i64 (k:Int)∧b=.int .i64 (q:Int)∧(q=0∨q<n)∧Ext w wr) (fun o _ _=>n-(intOf o).toNat);case atStart=>exact⟨1,0,Ym _,by omega,rfl,rfl,.inl rfl,Yk _⟩
  obtain⟨k,q,hk1,hk2,rfl,rfl,hq,hx⟩:=hrel;have Hx:=Y8 hx;clear hx;by_cases hlt:k<n
  ·have hd:=LTd k n;have hlt':k<s.size:=by rw[Hn.o];exact hlt
   have k0:(0:Int)≤(k:Int):=by omega
   obtain⟨c,hc⟩:∃ b:Nat,(s[k]'hlt').toNat=b:=⟨_,rfl⟩;go_wp2_with fail;all_goals
    go_roundw;case rel=>first|exact⟨k+1,q,by omega,by omega,by go_num,rfl,hq,Hx.o⟩|exact⟨k+1,k,by omega,by omega,by go_num,rfl,.inr hlt,Hx.o⟩
    (simp[intOf];omega)
  have hd:=GEl k n;go_wp2_with fail;clear hk1 hk2 hlt;have hqn:q≤n:=by omega
  have hq8:q≤2048:=by omega
  have Hq:=Y8 hq;clear hq hd;go_loopw [7,6] (fun o v wr=>∃ (k:Nat) (l:List Int),k≤q∧o=.int .i64 (k:Int)∧Own Ww wr B v l∧l.length=k∧Ext w wr) (fun o _ _=>q-(intOf o).toNat);case atStart=>exact⟨0,[],by omega,rfl,Own.nil _ _ _,rfl,Hx.o⟩
  clear Hx;obtain⟨k,l,hk,rfl,ho,hl,hx⟩:=hrel;obtain⟨A,C,rfl,hlC,hC⟩:=ho.shape;rw[hl]at hlC⊢;have Hx:=Y8 hx;have Ho:=Y8 ho;have Hl:=Y8 hl;have hBw:B≤wr.heap.size:=by rw[← HB.o];exact hx.size
  unfold maxLen at hC;clear hx ho hl;by_cases hlt:k<q
  ·have hd:=LTd k q;have hlt':k<s.size:=by rw[Hn.o];omega
   have k0:(0:Int)≤(k:Int):=by omega
   have k1:(k:Int)<(n:Int):=by omega
   obtain⟨c,hc⟩:∃ b:Nat,(s[k]'hlt').toNat=b:=⟨_,rfl⟩;by_cases hc7:127<c
   ·have d1:decide ((127:Int)<(c:Int))=true:=Ye;go_wp2_with fail;go_ret2;exact Wx _ Hx.o
   have d1:decide ((127:Int)<(c:Int))=false:=Yf;have r0:IntKind.i64.wrap (c:Int)=(c:Int):=Yp _ (by omega);go_wp2_with (at_builtin;refine Xt Ww _ _ _ rfl rfl rfl rfl (by rw[← Hl.o];exact Ho.o.ext ((Yk _).alloc _)) rfl (Ws wr (c:Int) _ _ rfl) (by rw[Hl.o];simp;omega) (by show 8≤1000;omega) (by simp;omega) ?_;intro A3 n3 c3 w3 hg);have Hg:=Y8 hg;clear hg;go_wp2_with fail;go_roundw;case rel=>exact⟨k+1,_,by omega,by go_num,Hg.o.own,by rw[Zs,Hl.o];rfl,Hg.o.ext w (Hx.o.alloc _) (by rw[HB.o];exact Ym _)⟩
   (simp[intOf];omega)
  have hd:=GEl k q;obtain rfl:k=q:=by omega
  have hkn:k<n∨k=0:=by have:=Hq.o;omega
  have Hkn:=Y8 hkn;clear hkn;go_upto_if 50 with fail;go_cut [8] (fun o wx=>wx=wr∧∃ a0:Nat,a0≤n∧k≤a0∧o=.int .i64 (a0:Int));case first =>
   by_cases hz:0<k
   ·have z1:decide ((0:Int)<(k:Int))=true:=Ye;go_wp2_with fail;go_meet;exact⟨by trivial,k+1,by rcases Hkn.o with h|h<;>omega,by omega,by go_num⟩
   have z1:decide ((0:Int)<(k:Int))=false:=Yf;go_wp2_with fail;go_meet;exact⟨by trivial,k,by rcases Hkn.o with h|h<;>omega,Ym _,rfl⟩
  obtain⟨rfl,a0,ha1,ha2,rfl⟩:=hcut;go_wp2_with fail;clear hk hlt hd hlC hC;go_loopw [8,9,10,11,12,6] (fun o m i y f v wr=>∃ (a:Nat) (x:Int) (p:Nat) (z:Int) (b:Bool) (l:List Int),a≤n∧o=.int .i64 (a:Int)∧128≤x∧x≤1114111∧m=.int .i64 x∧p≤l.length∧i=.int .i64 (p:Int)∧y=.int .i64 z∧f=.bool b∧Own Ww wr B v l∧l.length≤a∧Ext w wr) (fun o _ _ _ _ _ _=>n-(intOf o).toNat);case atStart=>exact⟨a0,128,0,72,true,l,ha1,by first|rfl|go_num,by omega,by omega,rfl,Zgf _,rfl,rfl,rfl,by have:=Ho.o;rwa [Hl.o]at this,by rw[Hl.o];exact ha2,Hx.o⟩
  clear Hx Ho Hl Hkn;obtain⟨a,x,p,z,b,l,ha,rfl,hx1,hx2,rfl,hp,rfl,rfl,rfl,ho,hla,hx⟩:=hrel;obtain⟨A,C,rfl,hlC,hC⟩:=ho.shape;obtain⟨m,hm⟩:=gnX (l.length);rw[hm]at hlC hp hla⊢;have Hm:=Y8 hm;have Hx:=Y8 hx;have Ho:=Y8 ho;have hBw:B≤wr.heap.size:=by rw[← HB.o];exact hx.size
  have HBw:=Y8 hBw;unfold maxLen at hC;clear hx ho hm hBw;by_cases hlt:a<n
  ·have hd:=LTd a n;go_wp2_with fail;refine(Zpk s n a Hn.o (by omega) (by omega) z _).mono ?_;rintro e w1 ⟨v,y,ok,rfl,hok,hx1⟩;have Hx1:=Y8 hx1;clear hx1;obtain⟨H,hH⟩:=gnX (m+1);have r1:IntKind.i64.wrap ((m:Int)+1)=(H:Int):=by rw[Yp _ (by omega)];omega
   cases ok with
   | false =>
    go_wp2_with fail;go_ret2;exact Wx _ (Hx.o.trans Hx1.o)
   | true =>
    obtain⟨V,p2,rfl,rfl,hV,hp2,hp3⟩:=hok rfl;clear hok;by_cases hov:2147483647<V
    ·have d1:decide ((2147483647:Int)<(V:Int))=true:=Ye;go_wp2_with fail;go_ret2;exact Wx _ (Hx.o.trans Hx1.o)
    have d1:decide ((2147483647:Int)<(V:Int))=false:=Yf;obtain⟨M,hM⟩:=gnX (V+p);have r2:IntKind.i64.wrap ((V:Int)+(p:Int))=(M:Int):=by rw[Yp _ (by omega)];omega
    have hH0:(H==0)=false:=by simp;omega
    have hH1:((H:Int)==0)=false:=by simp;omega
    have hH2:H≠0:=by omega
    have r3:(M:Int).tdiv (H:Int)=((M/H:Nat):Int):=rfl;have r6:(M:Int).tmod (H:Int)=((M%H:Nat):Int):=rfl;have hq:=Zd9 M H;have hr:=Zca M (show 0<H by omega);obtain⟨q,hqe⟩:=gnX (M/H);obtain⟨r,hre⟩:=gnX (M%H);rw[hqe]at r3 hq;rw[hre]at r6 hr;clear hqe hre;have r4:IntKind.i64.wrap (q:Int)=(q:Int):=Yp _ (by omega);obtain⟨y2,hy2⟩:=gnX (x+(q:Int));have r5:IntKind.i64.wrap (x+(q:Int))=y2:=by rw[Yp _ (by omega)];exact hy2
    have hyb:128≤y2:=by omega
    by_cases hbig2:1114111<y2
    ·have d2:decide ((1114111:Int)<y2)=true:=Ye hbig2;clear hy2;go_wp2_with fail;go_ret2;exact Wx _ (Hx.o.trans Hx1.o)
    have d2:decide ((1114111:Int)<y2)=false:=Yf hbig2;have HH:=Y8 hH;clear hy2 hM hH;go_wp2_with fail;refine wreX ?_;repeat(refine(Yu ?_:);intro K hK;go_simp;refine hK _ ?_;clear hK K)
    refine Yt ?_;intro w2 hy;have Hx2:=Y8 (Hx1.o.trans hy);clear hy;cases hs:Zw1 y2
    ·go_wp2_with (go_at_call 143;refine(Kq _ _).mono ?_;rintro e w' ⟨rfl,rfl⟩;rw[hs]);go_ret2;exact Wx _ (Hx.o.trans Hx2.o)
    go_wp2_with (go_at_call 143;refine(Kq _ _).mono ?_;rintro e w' ⟨rfl,rfl⟩;rw[hs]);refine(Te V H (by omega) (by have:=HH.o;omega) (by have:=HH.o;omega) b _).mono ?_;rintro e w3 ⟨z3,rfl,hx3⟩;have Hx3:=Y8 (Hx2.o.trans hx3);have Ho3:=Y8 (Ho.o.ext Hx3.o);have hB3:=Zgo HBw.o Hx3.o.size;have HB3:=Y8 hB3;have hrm:r≤m:=by have:=HH.o;omega
    have s0:(0:Int)≤(r:Int):=by omega
    have s1:(r:Int)≤(m:Int):=by omega
    have s2:(r:Int)≤(C:Int):=by omega
    have s3:r≤C:=by omega
    have s4:r≤m:=by omega
    clear hx3 hB3 hr hrm;have hA:(A=none∧m=0∧C=0)∨∃ g,A=some ⟨g,0,none⟩:=by
     rcases Ho.o.2 with⟨h1,h2⟩ | ⟨g,c,_,h1,_⟩
     ·simp only[Yd]at h1;exact .inl ⟨h1.1,by rw[← Hm.o];exact h2,h1.2.2⟩
     simp only[Yd]at h1;exact .inr ⟨g,h1.1⟩
    have Ht:=Y8 (show RdE Ww w3 (fun k=>B≤k) (.slice A r C) (l.take r) from RdE.take (by have:=Ho3.o.rd;exact this) rfl (by rw[Hm.o];exact s4));have Htl:=Y8 (show(l.take r).length=r by rw[Zp,Hm.o];omega);rcases hA with⟨rfl,rfl,rfl⟩ | ⟨g,rfl⟩
    ·obtain rfl:r=0:=by omega
     have hl0:l=[]:=Zgb Hm.o;subst hl0;go_wp2_with (first|(at_builtin;refine Xt Ww _ _ _ rfl rfl rfl rfl (Own.nil Ww _ B) rfl (Ws w3 y2 _ _ rfl) (by show 0+1≤_;omega) (by show 8≤1000;omega) (by have:=HB3.o;simp;omega) ?_;intro A5 n5 c5 w5 hg5;have Hg5:=Y8 hg5;have hx5:=hg5.ext w ((Hx.o.trans Hx3.o).alloc _) (by rw[HB.o];exact Ym _);have Hx5:=Y8 hx5;have HB5:=Y8 (show B≤w5.heap.size by rw[← HB.o];exact hx5.size);have Hl5:=Y8 (show n5=1 by rw[hg5.len];rfl);clear hg5 hx5)|(at_builtin;refine Xt Ww _ _ _ rfl rfl rfl rfl Hg5.o.own rfl (show RdE Ww _ (fun _=>True) (.slice none 0 0) [] from Xw.nil _ _) (by show 1+0≤_;omega) (by show 8≤1000;omega) HB5.o ?_;intro A6 n6 c6 w6 hg6;have Hg6:=Y8 hg6;have Hx6:=Y8 (hg6.ext w Hx5.o (by rw[HB.o];exact Ym _));have Hl6:=Y8 (show n6=1 by rw[hg6.len];rfl);clear hg6));go_roundw;case rel=>exact⟨p2,y2,1,z3,false,_,hp3,rfl,hyb,by omega,rfl,by rw[← Hg6.o.len,Hl6.o];omega,by first|rfl|go_num,rfl,rfl,Hg6.o.own,by rw[← Hg6.o.len,Hl6.o];omega,Hx6.o⟩
     (simp[intOf];omega)
    by_cases hCr:C=r
    ·have hmC:m=C:=by omega
     have hmr:m=r:=by omega
     clear hCr;subst hmC hmr;have Hr3:=Y8 (show RdE Ww w3 (fun k=>k<w3.heap.size) _ l from Rd.mono Ho3.o.rd fun _ _ h=>h);go_wp2_with (first|(at_builtin;refine Xt Ww _ _ _ rfl rfl rfl rfl (Own.nil Ww _ B) rfl Ht.o (by have:=Htl.o;simp only[Zk];omega) (by show 8≤1000;omega) HB3.o ?_;intro A4 n4 c4 w4 hg4;have Hg4:=Y8 hg4;have hx4:=hg4.ext w (Hx.o.trans Hx3.o) (by rw[HB.o];exact Ym _);have Hx4:=Y8 hx4;have HB4:=Y8 (show B≤w4.heap.size by rw[← HB.o];exact hx4.size);have Hl4:=Y8 (show n4=m by rw[hg4.len,Zo];exact Htl.o);have Hr4:=Y8 (Rd.chg Hr3.o hg4.chg (fun k _ h=>by cases h));have Ha4:=Y8 (show ∀ k,k<w3.heap.size→¬ (Value.slice A4 n4 c4).ownBlock=some k by intro k hk he;rcases hg4.at_ with h|h<;>rw[he]at h;cases h;(simp at h;omega));have hc4:=hg4.cap;clear hg4 hx4)|(at_builtin;refine Xt Ww _ _ _ rfl rfl rfl rfl (Hg4.o.own.ext ((Yk _).alloc _)) rfl (Ws w4 y2 _ _ rfl) (by rw[← Hg4.o.len,Hl4.o];show _+1≤_;omega) (by show 8≤1000;omega) (by have:=HB4.o;simp;omega) ?_;intro A5 n5 c5 w5 hg5;have Hg5:=Y8 hg5;have hx5:=hg5.ext w (Hx4.o.alloc _) (by rw[HB.o];exact Ym _);have Hx5:=Y8 hx5;have HB5:=Y8 (show B≤w5.heap.size by rw[← HB.o];exact hx5.size);have Hl5:=Y8 (show n5=m+1 by rw[hg5.len,Zs,← Hg4.o.len,Hl4.o];rfl);have Hr5:=Y8 (Rd.chg (Rd.ext Hr4.o ((Yk _).alloc _)) hg5.chg (fun k hk h=>Ha4.o k hk h));clear hg5 hx5)|(at_builtin;refine Xt Ww _ _ _ rfl rfl rfl rfl Hg5.o.own rfl (Zil _ _ _ (by unfold maxLen;omega)) (by rw[← Hg5.o.len,Hl5.o];show _+0≤_;omega) (by show 8≤1000;omega) HB5.o ?_;intro A6 n6 c6 w6 hg6;have Hg6:=Y8 hg6;have Hx6:=Y8 (hg6.ext w Hx5.o (by rw[HB.o];exact Ym _));have Hl6:=Y8 (show n6=m+1 by rw[hg6.len,Zs,← Hg5.o.len,Hl5.o];rfl);clear hg6));go_roundw;case rel=>exact⟨p2,y2,m+1,z3,false,_,hp3,rfl,hyb,by omega,rfl,by rw[← Hg6.o.len,Hl6.o];omega,by rw[HH.o],rfl,rfl,Hg6.o.own,by rw[← Hg6.o.len,Hl6.o];omega,Hx6.o⟩
     (simp[intOf];omega)
    have c1:¬ r=C:=fun h=>hCr h.symm
    have Hr3:=Y8 (show RdE Ww w3 (fun k=>k<w3.heap.size) _ l from Rd.mono Ho3.o.rd fun _ _ h=>h);go_wp2_with (first|(at_builtin;refine Xt Ww _ _ _ rfl rfl rfl rfl (Own.nil Ww _ B) rfl Ht.o (by have:=Htl.o;simp only[Zk];omega) (by show 8≤1000;omega) HB3.o ?_;intro A4 n4 c4 w4 hg4;have Hg4:=Y8 hg4;have hx4:=hg4.ext w (Hx.o.trans Hx3.o) (by rw[HB.o];exact Ym _);have Hx4:=Y8 hx4;have HB4:=Y8 (show B≤w4.heap.size by rw[← HB.o];exact hx4.size);have Hl4:=Y8 (show n4=r by rw[hg4.len,Zo];exact Htl.o);have Hr4:=Y8 (Rd.chg Hr3.o hg4.chg (fun k _ h=>by cases h));have Ha4:=Y8 (show ∀ k,k<w3.heap.size→¬ (Value.slice A4 n4 c4).ownBlock=some k by intro k hk he;rcases hg4.at_ with h|h<;>rw[he]at h;cases h;(simp at h;omega));have hc4:=hg4.cap;clear hg4 hx4)|(at_builtin;refine Xt Ww _ _ _ rfl rfl rfl rfl (Hg4.o.own.ext ((Yk _).alloc _)) rfl (Ws w4 y2 _ _ rfl) (by rw[← Hg4.o.len,Hl4.o];show _+1≤_;omega) (by show 8≤1000;omega) (by have:=HB4.o;simp;omega) ?_;intro A5 n5 c5 w5 hg5;have Hg5:=Y8 hg5;have hx5:=hg5.ext w (Hx4.o.alloc _) (by rw[HB.o];exact Ym _);have Hx5:=Y8 hx5;have HB5:=Y8 (show B≤w5.heap.size by rw[← HB.o];exact hx5.size);have Hl5:=Y8 (show n5=r+1 by rw[hg5.len,Zs,← Hg4.o.len,Hl4.o];rfl);have Hr5:=Y8 (Rd.chg (Rd.ext Hr4.o ((Yk _).alloc _)) hg5.chg (fun k hk h=>Ha4.o k hk h));clear hg5 hx5)|(at_builtin;refine Xt Ww _ _ _ rfl rfl rfl rfl Hg5.o.own rfl (RdE.drop (show RdE Ww w5 (fun k=>k<w3.heap.size) (.slice (some ⟨g,0,none⟩) l.length C) l from Hr5.o) rfl (by rw[Hm.o];exact s4) (by rw[Hm.o]) (by first|(intro _;simp;done)|(intro h;exfalso;omega)) (by omega) (by unfold maxLen;omega)) (by rw[← Hg5.o.len,Hl5.o,Yz,Hm.o];omega) (by show 8≤1000;omega) HB5.o ?_;intro A6 n6 c6 w6 hg6;have Hg6:=Y8 hg6;have Hx6:=Y8 (hg6.ext w Hx5.o (by rw[HB.o];exact Ym _));have Hl6:=Y8 (show n6=m+1 by rw[hg6.len,Zs,← Hg5.o.len,Hl5.o,Yz,Hm.o];omega);clear hg6));go_roundw;case rel=>exact⟨p2,y2,r+1,z3,false,_,hp3,rfl,hyb,by omega,rfl,by rw[← Hg6.o.len,Hl6.o];omega,by go_num,rfl,rfl,Hg6.o.own,by rw[← Hg6.o.len,Hl6.o];omega,Hx6.o⟩
    (simp[intOf];omega)
  have hd:=GEl a n;go_wp2_with fail;go_ret2;refine⟨_,l,0,rfl,?_,by rw[Hm.o];omega,Hx.o⟩;rw[← Hm.o,HB.o];exact Ho.o.rd
 have d0:decide ((2048:Int)<(n:Int))=true:=Ye;go_wp2_with fail;go_ret2;exact Wx _ (Yk _)
