/- Lemmas of this claim: P1, RPu, P2, P3. Conditions: as named. -/
import Derived.Test.YtnbclgbicnpmnaaGreatA12
namespace Go.Proofs.YtnbclgbicnpmnaaGreat
open Go.RowKit Go.Sort Tryz
set_option maxHeartbeats 0
set_option maxRecDepth 100000
set_option linter.all false
def Zup(w:World)(e:Ending)(w':World):Prop:=∃ t:Nat,e=.returned (.int .i64 (t:Int))∧1≤t∧t≤26∧w=w'
theorem Zkj(x:Int)(h0:1≤x)(h1:x≤26)(w:World):Zup w (.returned (.int .i64 x)) w:=⟨x.toNat,by rw[Zhw (by omega)],by omega,by omega,rfl⟩
theorem Zrl(j b:Int)(w:World):Calls prog 259 #[.int .i64 j,.int .i64 b] w (Zup w):=by
 go_enter func259,ntmps259;go_wp2_with fail;all_goals
  go_ret;exact Zkj _ (by omega) (by omega) _
def Zr7(w:World)(e:Ending)(w':World):Prop:=∃ s:ByteArray,e=.returned (.string s)∧s.size=1∧w=w'
theorem Zyl(n:Nat)(h:n<36)(w:World):Calls prog 260 #[.int .i64 (n:Int)] w (Zr7 w):=by
 have h1:IntKind.i64.wrap ((n:Int)+1)=((n+1:Nat):Int):=Yp _ (by omega);have h2:(0:Int)≤(n:Int):=by omega
 have h3:(n:Int)≤((n+1:Nat):Int):=by omega
 have h4:((n+1:Nat):Int)≤36:=by omega
 go_enter func260,ntmps260;go_wp2_with fail;go_ret;exact⟨_,rfl,by rw[Ziw];show min (n+1) 36-n=1;omega,rfl⟩
def Zqr(n:Nat)(w:World)(e:Ending)(w':World):Prop:=∃ s:ByteArray,e=.returned (.string s)∧s.size≤n+1∧Ext w w'
theorem Zpj(n:Nat)(h:n≤1000000000)(b:Int)(w:World):Calls prog 244 #[.int .i64 (n:Int),.int .i64 b] w (Zqr n w):=by
 go_enter func244,ntmps244;go_wp2_with fail;go_loopw [0,5,6] (fun v s j wr=>∃ (m:Nat) (u:ByteArray) (z:Int),v=.int .i64 (m:Int)∧m≤1000000000∧u.size+m≤n∧s=.string u∧j=.int .i64 z∧Ext w wr) (fun v _ _ _=>(intOf v).toNat);case atStart=>exact⟨n,⟨#[]⟩,0,rfl,h,by show 0+n≤n;omega,rfl,rfl,Yl _⟩
 obtain⟨m,u,z,rfl,hm,hu,rfl,rfl,hx⟩:=hrel;have Hx:=Y4 hx;clear hx;have A1:=fun(w1:World)=>Zrl z b w1
 have hum:u.size≤maxLen:=by unfold maxLen;omega
 go_wp2_with fail;refine(A1 _).mono ?_;rintro e w1 ⟨t,rfl,ht1,ht2,rfl⟩;by_cases hlt:m<t
 ·have d1:=LTd m t;go_wp2_with fail;refine(Zyl m (by omega) _).mono ?_;rintro e w1 ⟨s,rfl,hs,rfl⟩;have hus:(u++s).size≤maxLen:=by simp;unfold maxLen;omega
  go_wp2_with fail;go_ret;exact⟨_,rfl,by simp;omega,Hx.o⟩
 have d1:=GEl m t;have q1:IntKind.i64.wrap ((m:Int)-(t:Int))=((m-t:Nat):Int):=by rw[Yp _ (by omega)];omega
 have q2:IntKind.i64.wrap (36-(t:Int))=((36-t:Nat):Int):=by rw[Yp _ (by omega)];omega
 have q3:(((36-t:Nat):Int)==0)=false:=by simp;omega
 have q4:((m-t:Nat):Int).tmod ((36-t:Nat):Int)=(((m-t)%(36-t):Nat):Int):=rfl;have hmod:(m-t)%(36-t)<36-t:=Nat.mod_lt _ (by omega);obtain⟨r,hr⟩:=gnX ((m-t)%(36-t));rw[hr]at q4 hmod;clear hr;have q5:IntKind.i64.wrap ((t:Int)+(r:Int))=((t+r:Nat):Int):=by rw[Yp _ (by omega)];omega
 have q6:((m-t:Nat):Int).tdiv ((36-t:Nat):Int)=(((m-t)/(36-t):Nat):Int):=rfl;have hdiv:(m-t)/(36-t)≤m-t:=Zgj _ _;obtain⟨q,hq⟩:=gnX ((m-t)/(36-t));rw[hq]at q6 hdiv;clear hq;have q7:IntKind.i64.wrap (q:Int)=(q:Int):=Yp _ (by omega);have q8:(36-t:Nat)≠0:=by omega
 go_wp2_with fail;refine(Zyl (t+r) (by omega) _).mono ?_;rintro e w1 ⟨s,rfl,hs,rfl⟩;have hus:(u++s).size≤maxLen:=by simp;unfold maxLen;omega
 go_wp2_with fail;go_roundw;case rel=>exact⟨q,_,_,rfl,by omega,by simp;omega,rfl,rfl,Hx.o⟩
 (simp[intOf];omega)
theorem Su(d n:Nat)(hd:d≤100000000000)(hn:1≤n)(hn2:n≤4096)(b:Bool)(w:World):Calls prog 245 #[.int .i64 (d:Int),.int .i64 (n:Int),.bool b] w (Bz w):=by
 have d1:decide ((d:Int)<0)=false:=Yg;have d2:decide ((1099511627776:Int)<(d:Int))=false:=Yg;have d3:decide ((n:Int)<1)=false:=Yg;have d4:decide ((4096:Int)<(n:Int))=false:=Yg;have d5:((n:Int)==0)=false:=by simp;omega
 have d6:n≠0:=by omega
 cases b
 ·have p2:(d:Int).tdiv 2=((d/2:Nat):Int):=rfl;obtain⟨m,hm⟩:=gnX (d/2);rw[hm]at p2;have hmd:m≤100000000000:=by omega
  clear hm;have p4:IntKind.i64.wrap (m:Int)=(m:Int):=Yp _ (by omega);have p5:(m:Int).tdiv (n:Int)=((m/n:Nat):Int):=rfl;have hq:=Zgj m n;obtain⟨q,hqe⟩:=gnX (m/n);rw[hqe]at p5 hq;clear hqe;have p6:IntKind.i64.wrap (q:Int)=(q:Int):=Yp _ (by omega);have p7:IntKind.i64.wrap ((m:Int)+(q:Int))=((m+q:Nat):Int):=by rw[Yp _ (by omega)];omega
  go_enter func245,ntmps245;go_wp2_with fail;go_loopw [0,7] (fun v k wr=>∃ (a:Nat) (z:Int),v=.int .i64 (a:Int)∧a≤200000000000∧k=.int .i64 z∧Ext w wr) (fun v _ _=>(intOf v).toNat);case atStart=>exact⟨m+q,0,rfl,by omega,rfl,Yl _⟩
  obtain⟨a,z,rfl,ha,rfl,hx⟩:=hrel;by_cases hlt:455<a
  ·have e1:decide ((455:Int)<(a:Int))=true:=Yf;have e2:(a:Int).tdiv 35=((a/35:Nat):Int):=rfl;have e3:IntKind.i64.wrap ((a/35:Nat):Int)=((a/35:Nat):Int):=Yp _ (by omega);go_wp2_with fail;go_roundw;case rel=>exact⟨a/35,_,rfl,by omega,rfl,hx⟩
   (simp only[intOf];omega)
  have e1:decide ((455:Int)<(a:Int))=false:=Yg;have e2:IntKind.i64.wrap ((a:Int)+38)=((a+38:Nat):Int):=by rw[Yp _ (by omega)];omega
  have e3:(((a+38:Nat):Int)==0)=false:=by simp;omega
  have e4:a+38≠0:=by omega
  go_wp2_with fail;go_ret;exact⟨_,rfl,hx⟩
 have p2:(d:Int).tdiv 700=((d/700:Nat):Int):=rfl;obtain⟨m,hm⟩:=gnX (d/700);rw[hm]at p2;have hmd:m≤100000000000:=by omega
 clear hm;have p4:IntKind.i64.wrap (m:Int)=(m:Int):=Yp _ (by omega);have p5:(m:Int).tdiv (n:Int)=((m/n:Nat):Int):=rfl;have hq:=Zgj m n;obtain⟨q,hqe⟩:=gnX (m/n);rw[hqe]at p5 hq;clear hqe;have p6:IntKind.i64.wrap (q:Int)=(q:Int):=Yp _ (by omega);have p7:IntKind.i64.wrap ((m:Int)+(q:Int))=((m+q:Nat):Int):=by rw[Yp _ (by omega)];omega
 go_enter func245,ntmps245;go_wp2_with fail;go_loopw [0,7] (fun v k wr=>∃ (a:Nat) (z:Int),v=.int .i64 (a:Int)∧a≤200000000000∧k=.int .i64 z∧Ext w wr) (fun v _ _=>(intOf v).toNat);case atStart=>exact⟨m+q,0,rfl,by omega,rfl,Yl _⟩
 obtain⟨a,z,rfl,ha,rfl,hx⟩:=hrel;by_cases hlt:455<a
 ·have e1:decide ((455:Int)<(a:Int))=true:=Yf;have e2:(a:Int).tdiv 35=((a/35:Nat):Int):=rfl;have e3:IntKind.i64.wrap ((a/35:Nat):Int)=((a/35:Nat):Int):=Yp _ (by omega);go_wp2_with fail;go_roundw;case rel=>exact⟨a/35,_,rfl,by omega,rfl,hx⟩
  (simp only[intOf];omega)
 have e1:decide ((455:Int)<(a:Int))=false:=Yg;have e2:IntKind.i64.wrap ((a:Int)+38)=((a+38:Nat):Int):=by rw[Yp _ (by omega)];omega
 have e3:(((a+38:Nat):Int)==0)=false:=by simp;omega
 have e4:a+38≠0:=by omega
 go_wp2_with fail;go_ret;exact⟨_,rfl,hx⟩
def Bi(P:List Bool)(k:Nat):Nat:=(P.take k).count true
structure Znv(l:List Int)(P:List Bool)(i k:Nat):Prop where
 lt:k<i
 free:P[k]?=some false
 min:∀ j,j<i→P[j]?=some false→l.getD k 0≤l.getD j 0
 fst:∀ j,j<k→P[j]?=some false→l.getD k 0<l.getD j 0
structure Zlk(l:List Int)(P:List Bool)(n:Int)(i:Nat):Prop where
 len:P.length=l.length
 n0:128≤n
 low:∀ j,P[j]?=some false→n≤l.getD j 0
 cnt:i≤Bi P P.length
 tie:∀ j,P[j]?=some false→l.getD j 0=n→i≤Bi P j
theorem Sj(P:List Bool){a b:Nat}(h:a≤b):Bi P a≤Bi P b:=by
 unfold Bi;exact((Zhg h).count_le true)
theorem Pa(P:List Bool)(k:Nat):Bi P k≤P.length:=by
 unfold Bi;exact Zjw List.count_le_length (by rw[Zp];omega)
theorem Jb{P:List Bool}{k:Nat}{b:Bool}(h:P[k]?=some b):Bi P (k+1)=Bi P k+(if b then 1 else 0):=by
 unfold Bi;rw[Za,h,List.count_append];cases b<;>simp
theorem Cw(P:List Bool)(a:Nat):∀ {k:Nat},k≤a→Bi (P.set a true) k=Bi P k:=by
 intro k hk;unfold Bi;rw[List.take_set_of_le hk]
theorem Lu{P:List Bool}{a:Nat}(h:P[a]?=some false):∀ {k:Nat},a<k→k≤P.length→Bi (P.set a true) k=Bi P k+1:=by
 intro k hk hkl
 induction k with
 | zero=>omega
 | succ k ih =>
  have hb:P[k]?=some P[k]:=Zz (by omega);rw[Jb hb];by_cases e:k=a
  ·subst e;have:P[k]=false:=by rw[h]at hb;exact(Zjy hb).symm
   rw[Jb (P:=P.set k true) (b:=true) (by rw[Yv,Zjx rfl,Zjx (by omega)]),Cw P k (Yn _),this];simp
  rw[Jb (P:=P.set a true) (b:=P[k]) (by rw[Yv,Zk9 (by omega)];exact hb),ih (by omega) (by omega)];omega
theorem P7{P:List Bool}{a j:Nat}(h:(P.set a true)[j]?=some false):j≠a∧P[j]?=some false:=by
 rw[Yv]at h;split at h
 ·split at h<;>cases h
 rename_i hne;exact⟨fun e=>hne e.symm,h⟩
def Ip(l:List Int)(P:List Bool)(n:Int)(i k:Nat):Int:=(l.getD k 0-n)*((Bi P P.length:Int)+1)+(Bi P k:Int)-(i:Int)
theorem Zoz{l:List Int}{P:List Bool}{n:Int}{i k:Nat}(h:Zlk l P n i)(b:Znv l P l.length k):0≤Ip l P n i k:=by
 unfold Ip;have h1:=h.low k b.free;have h2:=h.cnt;rcases Int.lt_or_eq_of_le h1 with h3|h3
 ·have:((Bi P P.length:Int)+1)≤(l.getD k 0-n)*((Bi P P.length:Int)+1):=by
   have:=Int.mul_le_mul_of_nonneg_right (show(1:Int)≤l.getD k 0-n by omega) (show(0:Int)≤(Bi P P.length:Int)+1 by omega);rw[Int.one_mul]at this;exact this
  omega
 have h4:=h.tie k b.free h3.symm;rw[h3,Int.sub_self,Int.zero_mul];omega
theorem Zoy{l:List Int}{P:List Bool}{n:Int}{i k:Nat}(h:Zlk l P n i)(hs:∀ c∈l,0≤c∧c≤1114111)(b:Znv l P l.length k)(hl:l.length≤256):Ip l P n i k≤300000000:=by
 unfold Ip;have h1:=h.n0;have h2:Bi P P.length≤256:=by have:=Pa P P.length;rw[h.len]at this⊢;omega
 have h3:Bi P k≤256:=by have:=Pa P k;rw[h.len]at this;omega
 have h4:l.getD k 0≤1114111:=by
  rw[Ziy,Zz b.lt];exact(hs _ (Zg8 b.lt)).2
 have h5:(l.getD k 0-n)*((Bi P P.length:Int)+1)≤1114111*257:=by
  have h0:=h.low k b.free;exact Zfp (by omega) (by omega) (by omega) (by omega)
 omega
theorem Zsg{l:List Int}{P:List Bool}{n:Int}{i k:Nat}(h:Zlk l P n i)(b:Znv l P l.length k):Zlk l (P.set k true) (l.getD k 0) (Bi P k+1):=by
 have hk:k<P.length:=by rw[h.len];exact b.lt
 refine⟨by rw[Zf];exact h.len,Int.le_trans h.n0 (h.low k b.free),fun j hj=>?_,?_,fun j hj e=>?_⟩
 ·obtain⟨_,hj⟩:=P7 hj;exact b.min j (by rw[← h.len];exact(Zr.1 hj).1) hj
 ·rw[Zf,Lu b.free hk (Yn _)];have:=Sj P (Nat.le_of_lt hk);omega
 obtain⟨hne,hj⟩:=P7 hj;have hjl:=(Zr.1 hj).1;rcases Zis j k with h1|h1
 ·have:=b.fst j h1 hj;omega
 rw[Lu b.free (by omega) (by omega)];have:=Sj P h1;omega
def Tz(P:List Bool):Nat:=P.count false
theorem Lo{P:List Bool}{k:Nat}(h:P[k]?=some false):Tz (P.set k true)<Tz P:=by
 unfold Tz;obtain⟨hk,e⟩:=Zr.1 h;rw[List.count_set hk,e];have:0<P.count false:=List.count_pos_iff.2 (by rw[← e];exact Zg8 hk);simp;omega
theorem Zuf{w:World}{S:Nat→Prop}{v:Value}{P:List Bool}(h:RdE Pd w S v P){j:Nat}{b:Bool}(hj:P[j]?=some b) :
 ∃ g o c,v=.slice (some ⟨g,o,none⟩) P.length c∧P.length≤c∧c≤maxLen∧S g∧g<w.heap.size∧w.cell? ⟨g,o+j,none⟩=some (.bool b):=by
 obtain⟨g,o,c,h1,h2,h3,h4,h5,h6⟩:=Rd.at_ h (Zr.1 hj).1;exact⟨g,o,c,h1,h2,h3,h4,h5,h6 j _ (Fm hj)⟩
theorem Dq{l:List Int}{j:Nat}{x:Int}(h:l[j]?=some x):l.getD j 0=x:=by rw[Ziy,h];rfl
def Found(l:List Int)(P:List Bool)(i:Nat)(a:Int):Prop:=(a = -1∧∀ j,j<i→P[j]?≠some false)∨∃ k:Nat,a=(k:Int)∧Znv l P i k
theorem Zws{l:List Int}{P:List Bool}{i:Nat}{a:Int}(h:Found l P i a)(hb:P[i]?=some true):Found l P (i+1) a:=by
 rcases h with⟨h1,h2⟩ | ⟨k,h1,h2⟩
 ·refine .inl ⟨h1,fun j hj=>?_⟩;rcases Zhq (Zhf.1 hj)with h|h
  ·exact h2 j h
  subst h;rw[hb];simp
 refine .inr ⟨k,h1,Nat.lt_succ_of_lt h2.lt,h2.free,fun j hj hf=>?_,h2.fst⟩;rcases Zhq (Zhf.1 hj)with h|h
 ·exact h2.min j h hf
 subst h;rw[hb]at hf;simp at hf
theorem Ztw{l:List Int}{P:List Bool}{i:Nat}(h:∀ j,j<i→P[j]?≠some false)(hb:P[i]?=some false):Found l P (i+1) (i:Int) :=
 .inr ⟨i,rfl,Nat.lt_succ_self _,hb,fun j hj hf=>by
  rcases Zhq (Zhf.1 hj)with h1|h1
  ·exact absurd hf (h j h1)
  subst h1;exact Zip _,fun j hj hf=>absurd hf (h j hj)⟩
theorem Zwr{l:List Int}{P:List Bool}{i k:Nat}(h:Znv l P i k)(hx:¬ l.getD i 0<l.getD k 0):Found l P (i+1) (k:Int) :=
 .inr ⟨k,rfl,Nat.lt_succ_of_lt h.lt,h.free,fun j hj hf=>by
  rcases Zhq (Zhf.1 hj)with h1|h1
  ·exact h.min j h1 hf
  subst h1;omega,h.fst⟩
theorem Zwq{l:List Int}{P:List Bool}{i k:Nat}(h:Znv l P i k)(hb:P[i]?=some false)(hx:l.getD i 0<l.getD k 0):Found l P (i+1) (i:Int) :=
 .inr ⟨i,rfl,Nat.lt_succ_self _,hb,fun j hj hf=>by
  rcases Zhq (Zhf.1 hj)with h1|h1
  ·have:=h.min j h1 hf;omega
  subst h1;exact Zip _,fun j hj hf=>by have:=h.min j hj hf;omega⟩
def Zv7(l:List Int)(P:List Bool)(w:World)(e:Ending)(w':World):Prop:=∃ a:Int,e=.returned (.int .i64 a)∧Found l P l.length a∧Ext w w'
theorem Zte{S S':Nat→Prop}(v v':Value)(l:List Int)(P:List Bool)(w:World)(h:Xx w S v l)(h':RdE Pd w S' v' P)(hlp:P.length=l.length)(hl:l.length≤4096):Calls prog 243 #[v,v'] w (Zv7 l P w):=by
 obtain⟨A,C,rfl,hlCC,hCC⟩:=h.shape;obtain⟨n,hnn⟩:=gnX ((l).length);have Hnn:=Y4 hnn;have Hh:=Y4 h;unfold maxLen at hCC;rw[hnn]at hlCC⊢;clear h hnn;obtain⟨B,D,rfl,hlD,hD⟩:=h'.shape;rw[hlp,Hnn.o]at hlD⊢;have Hp:=Y4 h';have Hlp:=Y4 hlp;unfold maxLen at hD;rw[Hnn.o]at hl;clear h' hlp;go_enter func243,ntmps243;go_wp2_with fail;go_loopw [10,5] (fun o a wr=>∃ (i:Nat) (z:Int),i≤n∧o=.int .i64 (i:Int)∧a=.int .i64 z∧Found l P i z∧Ext w wr) (fun o _ _=>n-(intOf o).toNat);case atStart=>exact⟨0,-1,by omega,rfl,rfl,.inl ⟨rfl,fun j hj=>by omega⟩,Yl _⟩
 obtain⟨i,z,hi,rfl,rfl,hfo,hx⟩:=hrel;have Hx:=Y4 hx;have Hfo:=Y4 hfo;clear hx hfo;by_cases hlt:i<n
 ·obtain⟨hd_i,i0_i,i1_i⟩:=LTl i n;obtain⟨x,hs_x⟩:=geX (l:=(l)) (i:=i) (by have:=Hnn.o;omega);obtain⟨g_x,o_x,c_x,hvv,_,_,_,hgl_x,a0_x⟩:=(Hh.o.ext Hx.o).get hs_x;simp only[Ye]at hvv;obtain⟨rfl,-,rfl⟩:=hvv;have Hs_x:=Y4 hs_x;clear hs_x;obtain⟨b,hb⟩:=geX (l:=P) (i:=i) (by rw[Hlp.o,Hnn.o];exact hlt);obtain⟨g2,o2,c2,hv2,_,_,_,hgl2,cb⟩:=Zuf (Hp.o.ext Hx.o) hb;simp only[Ye]at hv2;obtain⟨rfl,-,rfl⟩:=hv2;have Hb:=Y4 hb;clear hb;cases b with
  | true =>
   go_wp2_with fail;go_roundw;case rel=>exact⟨i+1,z,by omega,by go_num,rfl,Zws Hfo.o Hb.o,Hx.o⟩
   (simp[intOf];omega)
  | false =>
   rcases Hfo.o with⟨rfl,hno⟩ | ⟨k,rfl,hbest⟩
   ·have Hno:=Y4 hno;clear hno Hfo;go_wp2_with fail;go_roundw;case rel=>exact⟨i+1,(i:Int),by omega,by go_num,rfl,Ztw Hno.o Hb.o,Hx.o⟩
    (simp[intOf];omega)
   have hk:=hbest.lt;have Hbest:=Y4 hbest;clear hbest Hfo;have k0:decide ((k:Int)<0)=false:=Yg;have k1:(0:Int)≤(k:Int):=by omega
   have k2:(k:Int)<(n:Int):=by omega
   obtain⟨y,hy⟩:=geX (l:=l) (i:=k) (by rw[Hnn.o];omega);obtain⟨g3,o3,c3,hv3,_,_,_,_,cy⟩:=(Hh.o.ext Hx.o).get hy;simp only[Ye,Yd,Zjp,Zjj,Zj6]at hv3;obtain⟨⟨rfl,rfl⟩,-,rfl⟩:=hv3;have Hy:=Y4 hy;clear hy;cases q:decide (x<y)
   ·have Hq:=Y4 (show ¬ l.getD i 0<l.getD k 0 by rw[Dq Hs_x.o,Dq Hy.o];simpa using q);go_wp2_with fail;go_roundw;case rel=>exact⟨i+1,(k:Int),by omega,by go_num,rfl,Zwr Hbest.o Hq.o,Hx.o⟩
    (simp[intOf];omega)
   have Hq:=Y4 (show l.getD i 0<l.getD k 0 by rw[Dq Hs_x.o,Dq Hy.o];simpa using q);go_wp2_with fail;go_roundw;case rel=>exact⟨i+1,(i:Int),by omega,by go_num,rfl,Zwq Hbest.o Hb.o Hq.o,Hx.o⟩
   (simp[intOf];omega)
 have hd_i:=GEl i n;go_wp2_with fail;go_ret;refine⟨z,rfl,?_,Hx.o⟩;have:=Hfo.o
 rwa [show i=l.length by rw[Hnn.o];omega]at this
def boolRow(n:Nat):Array Value:=madeCells #[.bool false] n
theorem Au(n:Nat):(boolRow n).toList=(List.replicate n false).map Value.bool:=by
 unfold boolRow madeCells;apply Zfy
 ·simp
 intro i h1 h2;simp[Nat.mod_one]
theorem Zwf(n:Nat)(hn:n≤4096)(w:World):(Instr.makeSlice 117 (.int .i64 (n:Int)) (.int .i64 (n:Int))).run prog w=.ok (.slice (some ⟨w.heap.size,0,none⟩) n n) (w.alloc (.cells (boolRow n) 4)):=by
 obtain⟨i0,hi,hz0,hz1,hz2⟩:=Zju Je;have h:=run_make w 117 4 i0 _ Ik hi hz0 .i64 .i64 n n (by omega) (by omega) (by rw[hz2];omega) (by omega);simp only[Zg0,hz1,Zgk]at h;exact h
theorem Zsq(w:World)(n:Nat)(hn:n≤4096):Own Pd (w.alloc (.cells (boolRow n) 4)) w.heap.size (.slice (some ⟨w.heap.size,0,none⟩) n n) (List.replicate n false):=by
 refine⟨by rw[Pd.len],.inr ⟨w.heap.size,n,boolRow n,by rw[Z2],Yn _,Zjc w _,by rw[Z2];exact Yn _,by unfold maxLen;omega,?_,?_⟩⟩
 ·rw[← Zh3,Au];simp[Pd]
 rw[Au];show _=(List.replicate n false).map Value.bool;rw[Zm (by simp[Pd])]
def Zr8(w:World)(e:Ending)(w':World):Prop:=∃ (s:ByteArray) (x:Int),e=.returned (.tuple #[.string s,.int .i64 x])∧s.size≤100000000000∧Ext w w'
theorem Cv{P:List Bool}{x k:Nat}{b:Bool}(h:P[x]?=some b):Bi P (min (x+1) k)=Bi P (min x k)+(if b=true∧x<k then 1 else 0):=by
 by_cases hk:x<k
 ·rw[Zhp (by omega),Zhp (by omega),Jb h];cases b<;>simp[hk]
 rw[Zhl (by omega),Zhl (by omega),Zk9 (fun q=>hk q.2),Zix]
theorem Zqa{S:Nat→Prop}(v:Value)(l:List Int)(w:World)(h:Xx w S v l):Calls prog 223 #[v] w (Zr8 w):=by
 obtain⟨A,C,rfl,hlCC,hCC⟩:=h.shape;obtain⟨n,hnn⟩:=gnX ((l).length);have Hnn:=Y4 hnn;have Hh:=Y4 h;unfold maxLen at hCC;rw[hnn]at hlCC⊢;clear h hnn;go_enter func223,ntmps223;by_cases hn:n≤256
 ·have d1:decide ((256:Int)<(n:Int))=false:=Yg;have k2:=Zwf n (by omega);go_wp2_with fail;obtain⟨G,hG⟩:=gnX (w.heap.size);have Ho0:=Y4 (Zsq w n (by omega));rw[hG]at Ho0⊢;have HG:=Y4 hG;clear hG k2;go_loopw [26,4] (fun o s wr=>∃ (i:Nat) (u:ByteArray) (P:List Bool),i≤n∧o=.int .i64 (i:Int)∧s=.string u∧u.size≤i∧P.length=n∧Own Pd wr G (.slice (some ⟨G,0,none⟩) n n) P∧(∀ j,j<i→P[j]?=some false→128≤l.getD j 0)∧(∀ c∈l.take i,0≤c∧c≤1114111)∧Ext w wr) (fun o _ _=>n-(intOf o).toNat);case atStart=>exact⟨0,⟨#[]⟩,List.replicate n false,by omega,rfl,rfl,by show 0≤0;omega,by simp,Ho0.o,fun j hj=>by omega,by simp,by have:=(Yl w).alloc (.cells (boolRow n) 4);exact this⟩
  clear Ho0;obtain⟨i,u,P,hi,rfl,rfl,hu,hP,ho,hlo,hsc,hx⟩:=hrel;have Hx:=Y4 hx;have Ho:=Y4 ho;have HP:=Y4 hP;have Hlo:=Y4 hlo;have Hsc:=Y4 hsc;clear hx ho hP hlo hsc;by_cases hlt:i<n
  ·obtain⟨hd_i,i0_i,i1_i⟩:=LTl i n;obtain⟨x,hs_x⟩:=geX (l:=(l)) (i:=i) (by have:=Hnn.o;omega);obtain⟨g_x,o_x,c_x,hvv,_,_,_,hgl_x,a0_x⟩:=(Hh.o.ext Hx.o).get hs_x;simp only[Ye]at hvv;obtain⟨rfl,-,rfl⟩:=hvv;have Hs_x:=Y4 hs_x;clear hs_x;cases hs:Zxw x
   ·go_wp2_with (go_at_call 143;refine(J2 _ _).mono ?_;rintro e w' ⟨rfl,rfl⟩);go_ret2;exact⟨_,_,rfl,by show 0≤_;omega,Hx.o⟩
   have hx0:0≤x∧x≤1114111:=by simp[Zxw]at hs;omega
   have Hx0:=Y4 hx0;have hcn:∀ c∈l.take (i+1),0≤c∧c≤1114111:=by
    rw[Wp Hs_x.o];intro c hc;rcases Zj.1 hc with h1|h1
    ·exact Hsc.o c h1
    rw[Zi.1 h1];exact Hx0.o
   have Hcn:=Y4 hcn;clear hcn hx0;by_cases ha:x<128
   ·have d2:decide (x<128)=true:=Yf ha;have hcv:=fun w:World=>Qg (w:=w) [x] 1 rfl _ rfl
    simp only[Zj0,Ziz]at hcv;obtain⟨bz,hbz⟩:=gnX (bs (u8L [x]));have hbs:bz.size=1:=by rw[← hbz];rfl
    rw[hbz]at hcv;have hus:¬ 9223372036854775807<u.size+bz.size:=by omega
    have Hbs:=Y4 hbs;clear hbz hbs ha;have ho2:=Ho.o.ext ((Yl _).alloc (.cells #[.int .u8 (x%256)] 5));have hP2:i<P.length:=by rw[HP.o];exact hlt
    have hgb:=ho2.blk.2;have htw:=ho2.thaw i;obtain⟨b0,hb0⟩:∃ b0,P[i]?=some b0:=⟨P[i],Zz hP2⟩;have hc0:=ho2.at_ (Fm hb0);have Ho3:=Y4 (ho2.put rfl hP2 true (u:=.bool true) rfl);clear ho2 hb0;go_wp2_with (go_at_call 143;refine(J2 _ _).mono ?_;rintro e w' ⟨rfl,rfl⟩);go_roundw;case rel =>
     refine⟨i+1,_,P.set i true,by omega,by go_num,rfl,by simp;rw[Hbs.o];omega,by rw[Zf];exact HP.o,Ho3.o,fun j hj hf=>?_,Hcn.o,Ya (Hx.o.alloc _) (by show w.heap.size≤G;rw[HG.o];exact Yn _) _⟩;obtain⟨hne,hf⟩:=P7 hf;exact Hlo.o j (by omega) hf
    case measure=>(simp[intOf];omega)
   have d2:decide (x<128)=false:=Yg ha;have Ha:=Y4 ha;clear ha;go_wp2_with (go_at_call 143;refine(J2 _ _).mono ?_;rintro e w' ⟨rfl,rfl⟩);go_roundw;case rel =>
    refine⟨i+1,_,P,by omega,by go_num,rfl,by omega,HP.o,Ho.o,fun j hj hf=>?_,Hcn.o,Hx.o⟩;rcases Zhq (Zhf.1 hj)with h1|h1
    ·exact Hlo.o j h1 hf
    rw[h1,Dq Hs_x.o];have:=Ha.o;omega
   case measure=>(simp[intOf];omega)
  have hd_i:=GEl i n;obtain rfl:i=n:=by omega
  have Hsc2:=Y4 (show ∀ c∈l,0≤c∧c≤1114111 by have:=Hsc.o;rwa [Zm (by rw[Hnn.o];omega)]at this);have Hpu:=Y4 (show Zlk l P 128 0 from⟨by rw[HP.o,Hnn.o],by omega,fun j hj=>Hlo.o j (by rw[← HP.o];exact(Zr.1 hj).1) hj,by omega,fun j _ _=>by omega⟩);clear Hsc Hlo hlt hd_i hi;have Hfr:=Y4 (show Tz P≤i by unfold Tz;rw[← HP.o];exact List.count_le_length);cases hE:u.toList.isEmpty
  all_goals
   go_wp2_with fail;clear hE;rename World=>wo
   have Hxo:=Y4 Hx.o;go_loopg [4,8,9,10,11] (Tz P) (fun gk s nn ii bi fi wr=>∃ (u:ByteArray) (m:Int) (q:Nat) (y:Int) (b:Bool) (P:List Bool),s=.string u∧nn=.int .i64 m∧ii=.int .i64 (q:Int)∧bi=.int .i64 y∧fi=.bool b∧P.length=i∧Own Pd wr G (.slice (some ⟨G,0,none⟩) i i) P∧Zlk l P m q∧Tz P=gk∧gk≤i∧u.size+gk*300000002≤258+i*300000002∧Ext w wr);case atStart=>exact⟨_,128,0,72,true,P,rfl,rfl,rfl,rfl,rfl,HP.o,Ho.o,Hpu.o,rfl,Hfr.o,by first|(have:=Hfr.o;omega)|(have:=Hfr.o;rw[Ym];show u.size+1+_≤_;omega),Hx.o⟩
   clear Ho HP Hpu Hfr Hx Hxo;obtain⟨u,m,q,y,b,P,rfl,rfl,rfl,rfl,rfl,hP,ho,hpu,hfr,hgi,hu,hx⟩:=hrel;have Hx:=Y4 hx;have Ho:=Y4 ho;have HP:=Y4 hP;have Hpu:=Y4 hpu;have Hfr:=Y4 hfr;have Hu:=Y4 hu;have Hgi:=Y4 hgi;clear hx ho hP hpu hfr hu hgi;have HhI:=Y4 (show Xx w S (.slice A i C) l by have:=Hh.o;rwa [Hnn.o]at this);rename World=>wo
   go_wp2_with fail;refine(Zte _ _ l P _ (HhI.o.ext Hx.o) Ho.o.rd (by rw[HP.o,Hnn.o]) (by rw[Hnn.o];omega)).mono ?_;rintro e w1 ⟨a,rfl,hfo,hx1⟩;have Hx1:=Y4 (Hx.o.trans hx1);have Ho1:=Y4 (Ho.o.ext hx1);clear hx1;rcases hfo with⟨rfl,hall⟩ | ⟨k,rfl,hbest⟩
   ·go_wp2_with fail;go_ret2;refine⟨u,0,rfl,?_,Hx1.o⟩;have:=Hu.o;have:=Hgi.o;omega
   have hk:k<i:=by rw[← Hnn.o];exact hbest.lt
   have Hbest:=Y4 hbest;clear hbest;have k0:decide ((k:Int)<0)=false:=Yg;have k1:(0:Int)≤(k:Int):=by omega
   have k2:(k:Int)<(i:Int):=by omega
   go_wp2_with fail;go_loopw [58,13,14] (fun o h j wr=>∃ x:Nat,x≤i∧o=.int .i64 (x:Int)∧h=.int .i64 ((Bi P x:Nat):Int)∧j=.int .i64 ((Bi P (min x k):Nat):Int)∧Ext w1 wr) (fun o _ _ _=>i-(intOf o).toNat);case atStart=>exact⟨0,by omega,rfl,rfl,by rw[Nat.zero_min];rfl,Yl _⟩
   obtain⟨x,hxi,rfl,rfl,rfl,hx⟩:=hrel;have Hx2:=Y4 hx;clear hx;obtain⟨H,hH⟩:=gnX (Bi P x);obtain⟨J,hJ⟩:=gnX (Bi P (min x k));have hH1:H≤i:=by rw[← hH];exact Zjw (Pa P x) (by rw[HP.o];exact Yn _)
   have hJ1:J≤i:=by rw[← hJ];exact Zjw (Pa P _) (by rw[HP.o];exact Yn _)
   rw[hH,hJ];have HH:=Y4 hH;have HJ:=Y4 hJ;clear hH hJ;by_cases hlt:x<i
   ·obtain⟨hd_x,i0_x,i1_x⟩:=LTl x i;obtain⟨b0,hb0⟩:=geX (l:=P) (i:=x) (by rw[HP.o];exact hlt);have hc0:=(Ho1.o.ext Hx2.o).at_ (Fm hb0);have Hb0:=Y4 hb0;clear hb0;cases b0 with
    | false =>
     go_wp2_with fail;go_roundw;case rel=>exact⟨x+1,by omega,by go_num,by rw[Jb Hb0.o,HH.o];simp,by rw[Cv Hb0.o,HJ.o];simp,Hx2.o⟩
     (simp[intOf];omega)
    | true =>
     by_cases hxk:x<k
     ·have e1:=LTd x k;go_wp2_with fail;go_roundw;case rel=>exact⟨x+1,by omega,by go_num,by rw[Jb Hb0.o,HH.o];simp,by rw[Cv Hb0.o,HJ.o];simp[hxk],Hx2.o⟩
      (simp[intOf];omega)
     have e1:=GEl x k;go_wp2_with fail;go_roundw;case rel=>exact⟨x+1,by omega,by go_num,by rw[Jb Hb0.o,HH.o];simp,by rw[Cv Hb0.o,HJ.o];simp[hxk],Hx2.o⟩
     (simp[intOf];omega)
   have hd_x:=GEl x i;obtain rfl:x=i:=by omega
   rw[Zhl (by omega)]at HJ;have hbl:Znv l P l.length k:=Hbest.o;have hv0:=Zoz Hpu.o hbl;have hv1:=Zoy Hpu.o Hsc2.o hbl (by rw[Hnn.o];omega);have hsp:=Zsg Hpu.o hbl;have hms:=Hpu.o.low k hbl.free;have hms2:=Hpu.o.n0;have hq1:=Hpu.o.cnt;unfold Ip at hv0 hv1;rw[HP.o]at hv0 hv1 hq1;rw[HH.o,HJ.o]at hv0 hv1;rw[HH.o]at hq1;rw[HJ.o]at hsp;obtain⟨y0,hy⟩:=geX (l:=l) (i:=k) (by rw[Hnn.o];omega);rw[Dq hy]at hv0 hv1 hsp hms;have hyb:=Hsc2.o y0 (Zy hy);obtain⟨g3,o3,c3,hv3,_,_,_,hg3,cy⟩:=(HhI.o.ext (Hx1.o.trans Hx2.o)).get hy;simp only[Ye]at hv3;obtain⟨rfl,-,rfl⟩:=hv3;obtain⟨d,hd⟩:∃ d:Nat,y0-m=(d:Int):=⟨(y0-m).toNat,by rw[Zhw (by omega)]⟩;obtain⟨H1,hH1e⟩:=gnX (H+1);obtain⟨M,hM⟩:=gnX (d*H1);have hM2:(d:Int)*((H:Int)+1)=(M:Int):=by rw[← hM,← hH1e];simp
   rw[hd,hM2]at hv0 hv1;have hMb:M≤1114111*257:=by rw[← hM];exact Zfq (by omega) (by omega)
   obtain⟨V,hV⟩:∃ V:Nat,(M:Int)+(J:Int)-(q:Int)=(V:Int):=⟨((M:Int)+(J:Int)-(q:Int)).toNat,by rw[Zhw hv0]⟩;have r1:IntKind.i64.wrap (y0-m)=(d:Int):=by rw[Yp _ (by omega)];exact hd
   have r2:IntKind.i64.wrap ((H:Int)+1)=(H1:Int):=by rw[Yp _ (by omega)];omega
   have r3:IntKind.i64.wrap ((d:Int)*(H1:Int))=(M:Int):=by rw[← Int.natCast_mul,hM,Yp _ (by omega)]
   have r4:IntKind.i64.wrap ((M:Int)+(J:Int))=(M:Int)+(J:Int):=Yp _ (by omega);have r5:IntKind.i64.wrap ((M:Int)+(J:Int)-(q:Int))=(V:Int):=by rw[Yp _ (by omega)];omega
   have r6:IntKind.i64.wrap ((J:Int)+1)=(J:Int)+1:=Yp _ (by omega);have hVb:V≤300000000:=by omega
   have Hy:=Y4 hy;have Hsp:=Y4 hsp;clear hy hsp hd hM2 hM hV hv0 hv1 hms hms2 hyb hq1 hlt hd_x;go_wp2_with fail;refine(Zpj V (by omega) y _).mono ?_;rintro e w3 ⟨s3,rfl,hs3,hx3⟩;have hus:¬ 9223372036854775807<u.size+s3.size:=by have:=Hu.o;have:=Hgi.o;omega
   go_wp2_with fail;refine(Su V H1 (by omega) (by omega) (by omega) b _).mono ?_;rintro e w4 ⟨y4,rfl,hx4⟩;have hx04:=Hx2.o.trans (hx3.trans hx4);have ho4:=Ho1.o.ext hx04;have hgb:=ho4.blk.2;have htw:=ho4.thaw k;have hP2:k<P.length:=by rw[HP.o];exact hk
   have hc4:=ho4.at_ (Fm Hbest.o.free);have hy4:=(hx3.trans hx4).cell (p:=⟨g3,o3+k,none⟩) hg3;rw[cy]at hy4;have hne:g3≠G:=by
    obtain⟨g4,o4,c4,hv4,_,_,_,hg4,_⟩:=HhI.o.get Hy.o;simp only[Ye,Yd,Zjp]at hv4;have:=HG.o;omega
   have Ho5:=Y4 (ho4.put rfl hP2 true (u:=.bool true) rfl);have Hxf:=Y4 (Hx1.o.trans hx04);clear ho4 hx04;go_wp2_with fail;go_roundg (Tz (P.set k true));case measure=>rw[← Hfr.o];exact Lo Hbest.o.free
   case rel =>
    refine⟨_,y0,J+1,y4,false,P.set k true,rfl,rfl,by go_num,rfl,rfl,by rw[Zf];exact HP.o,Ho5.o,Hsp.o,rfl,?_,?_,Ya Hxf.o (by show w.heap.size≤G;rw[HG.o];exact Yn _) _⟩
    ·have:=Lo Hbest.o.free;have:=Hfr.o;have:=Hgi.o;omega
    have h1:=Lo Hbest.o.free;have h2:=Hfr.o;have h3:=Hu.o;rw[Ym];omega
 have d1:decide ((256:Int)<(n:Int))=true:=Yf;go_wp2_with fail;go_ret2;exact⟨_,_,rfl,by show 0≤_;omega,Yl _⟩
