/- Lemmas of this claim: P8, Pa, P9. Conditions: as named. -/
import Derived.Test.YtnbclgbicnpmnaaGreatA17
namespace Go.Proofs.YtnbclgbicnpmnaaGreat
open Go.RowKit Go.Sort Tryz
set_option maxHeartbeats 0
set_option maxRecDepth 100000
set_option linter.all false
theorem Zs9(w:World)(t:TypeId)(g:Nat)(hg:w.heap.size=g):Own Zlf (w.alloc (.cells #[.slice none 0 0] 22)) w.heap.size (.slice (some ⟨g,0,none⟩) 1 1) [⟨none,0,0⟩]:=by
 subst hg;exact⟨rfl,.inr ⟨w.heap.size,1,_,rfl,Yn _,Zjc w _,Yn _,by unfold maxLen;omega,rfl,rfl⟩⟩
theorem Zkq(w:World)(g:Nat)(hg:w.heap.size=g):RdE Zlf (w.alloc (.cells #[.slice none 0 0] 22)) (fun _=>True) (.slice (some ⟨g,0,none⟩) 1 1) [⟨none,0,0⟩] :=
 Rd.mono (Zs9 w 0 g hg).rd fun _ _ _=>trivial
theorem Ztb(w:World)(S:Nat→Prop):Ke w S [⟨none,0,0⟩] [[]]:=⟨rfl,fun j s x h1 h2=>by
 cases j with
 | zero=>simp at h1 h2;subst h1 h2;exact Xx.nil _ _
 | succ j=>simp at h1⟩
theorem Zwh{w:World}{S:Nat→Prop}{vs:List Sl}{ls:List (List Int)}(h:Ke w S vs ls){s:Sl}{x:List Int}(hs:Xx w S s.v x):Ke w S (vs++[s]) (ls++[x]):=by
 refine⟨by simp[h.1],fun j a b h1 h2=>?_⟩;rcases Zis j vs.length with hj|hj
 ·rw[Ze hj]at h1;rw[Ze (by rw[← h.1];exact hj)]at h2;exact h.2 j a b h1 h2
 rw[Zd hj]at h1;rw[Zd (by rw[← h.1];exact hj),← h.1]at h2;rcases hk:j-vs.length with _|k
 ·rw[hk]at h1 h2;simp at h1 h2;subst h1 h2;exact hs
 rw[hk]at h1;simp at h1
theorem Tm{w:World}{S:Nat→Prop}{vs:List Sl}{ls:List (List Int)}(h:Ke w S vs ls){s:Sl}{x:List Int}(hs:Xx w S s.v x)(i:Nat):Ke w S (vs.set i s) (ls.set i x):=by
 refine⟨by simp[h.1],fun j a b h1 h2=>?_⟩;rw[Yv]at h1 h2;by_cases hij:i=j
 ·subst hij;rw[Zjx rfl]at h1 h2;split at h1
  ·rw[Zjx (by rw[← h.1];assumption)]at h2;cases h1;cases h2;exact hs
  cases h1
 rw[Zk9 hij]at h1 h2;exact h.2 j a b h1 h2
def Ib(ls:List (List Int))(c:Int):List (List Int):=if c=46 then ls++[[]]else ls.set (ls.length-1) ((ls.getD (ls.length-1) [])++[c])
def Ux(l:List Int):List (List Int):=l.foldl Ib [[]]
theorem Zpy(ls:List (List Int))(c:Int):ls.length≤(Ib ls c).length:=by
 unfold Ib;split<;>simp
theorem Tq(l:List Int):1≤(Ux l).length:=by
 unfold Ux
 suffices ∀ ls:List (List Int),1≤ls.length→1≤(l.foldl Ib ls).length from this _ (by simp)
 induction l with
 | nil=>intro ls h;exact h
 | cons c r ih=>intro ls h;exact ih _ (Zjw h (Zpy ls c))
def Zut(N:Nat)(w:World)(e:Ending)(w':World):Prop:=∃ (v:Value) (l:List Int),e=.returned v∧RdE Wb w' (fun k=>w.heap.size≤k) v l∧l.length≤N∧Ext w w'
theorem Zq8(v:Value)(ls:List (List Int))(w:World)(h:Zxd w v ls)(hn:ls.length≤4097)(hm:∀ y∈ls,y.length≤4096):Calls prog 222 #[v] w (Zut 20000000 w):=by
 obtain⟨A,C,rfl,hlC,hC⟩:=h.shape;obtain⟨n,hnn⟩:=gnX (ls.length);rw[hnn]at hlC hn⊢;have Hnn:=Y4 hnn;have Hh:=Y4 h;have Hm:=Y4 hm;obtain⟨B,hB⟩:=gnX (w.heap.size);have HB:=Y4 hB;clear h hnn hm hB;go_enter func222,ntmps222;go_wp2_with fail;go_loopw [8,3] (fun o u wr=>∃ (i:Nat) (l:List Int),i≤n∧o=.int .i64 (i:Int)∧Own Wb wr B u l∧l.length≤i*4097∧Ext w wr) (fun o _ _=>n-(intOf o).toNat);case atStart=>exact⟨0,[],by omega,rfl,Own.nil _ _ _,by simp,Yl _⟩
 obtain⟨i,l,hi,rfl,ho,hli,hx⟩:=hrel;obtain⟨A2,C2,rfl,hlC2,hC2⟩:=ho.shape;obtain⟨m,hm⟩:=gnX (l.length);have hoI:Own Wb wr B (.slice A2 m C2) l:=by rw[← hm];exact ho
 rw[hm]at hlC2 hli⊢;have Hx:=Y4 hx;have Ho:=Y4 hoI;have Hl:=Y4 hm;have hBw:B≤wr.heap.size:=by rw[← HB.o];exact hx.size
 unfold maxLen at hC2;clear hx ho hoI hm;by_cases hlt:i<n
 ·obtain⟨hd_i,i0_i,i1_i⟩:=LTl i n;obtain⟨x,hx⟩:=geX (l:=ls) (i:=i) (by rw[Hnn.o];exact hlt);obtain⟨g,o,c,u,hv,_,_,hg,c0,hxu⟩:=Hh.o.get hx;simp only[Ye]at hv;obtain⟨rfl,-,rfl⟩:=hv;replace c0:=(Hx.o.cell (p:=⟨g,o+i,none⟩) hg).trans c0;have hxl:=Hm.o x (Zy hx);obtain⟨A3,C3,rfl,hl3,hc3⟩:=hxu.shape;obtain⟨k,hk⟩:=gnX (x.length);have Hxu:=Y4 (show RdE Wb w (fun _=>True) (.slice A3 k C3) x by rw[← hk];exact hxu);rw[hk]at c0 hl3 hxl;have Hk:=Y4 hk;clear hx hxu hk;have hi1:i*4097≤4097*4097:=Zje _ (by omega);have hi2:(i+1)*4097=i*4097+4097:=by omega
  have Hi2:=Y4 hi2;clear hi2;by_cases hi0:0<i
  ·have d1:decide ((0:Int)<(i:Int))=true:=Yf;go_wp2_with (first|(at_builtin;refine Xt Wb _ _ _ rfl rfl rfl rfl (Ho.o.ext ((Yl _).alloc _)) rfl (Wr wr 46 _ _ rfl) (by rw[Hl.o];show m+1≤_;omega) (by show 8≤1000;omega) (by simp;omega) ?_;intro A4 n4 c4 w4 hg4;have Hx4:=Y4 (hg4.ext w (Hx.o.alloc _) (by rw[HB.o];exact Yn _));have Hl4:=Y4 (show n4=m+1 by(rw[hg4.len,Zs,Hl.o];rfl));have HB4:=Y4 (show B≤w4.heap.size by rw[← HB.o];exact Hx4.o.size);have Hg4:=Y4 hg4;clear hg4)|(at_builtin;refine Xt Wb _ _ _ rfl rfl rfl rfl Hg4.o.own rfl (Hxu.o.ext Hx4.o) (by rw[← Hg4.o.len,Hl4.o,Hk.o];omega) (by show 8≤1000;omega) HB4.o ?_;intro A5 n5 c5 w5 hg5;have Hx5:=Y4 (hg5.ext w Hx4.o (by rw[HB.o];exact Yn _));have Hl5:=Y4 (show n5=m+1+k by(rw[hg5.len,Zs,← Hg4.o.len,Hl4.o,Hk.o]));have Hg5:=Y4 hg5;clear hg5));go_roundw;case rel=>exact⟨i+1,_,by omega,by go_num,Hg5.o.own,by rw[← Hg5.o.len,Hl5.o,Hi2.o];omega,Hx5.o⟩
   (simp[intOf];omega)
  have d1:decide ((0:Int)<(i:Int))=false:=Yg;go_wp2_with (at_builtin;refine Xt Wb _ _ _ rfl rfl rfl rfl Ho.o rfl (Hxu.o.ext Hx.o) (by rw[Hl.o,Hk.o];omega) (by show 8≤1000;omega) hBw ?_;intro A5 n5 c5 w5 hg5;have Hx5:=Y4 (hg5.ext w Hx.o (by rw[HB.o];exact Yn _));have Hl5:=Y4 (show n5=m+k by(rw[hg5.len,Zs,Hl.o,Hk.o]));have Hg5:=Y4 hg5;clear hg5);go_roundw;case rel=>exact⟨i+1,_,by omega,by go_num,Hg5.o.own,by rw[← Hg5.o.len,Hl5.o,Hi2.o];omega,Hx5.o⟩
  (simp[intOf];omega)
 have hd_i:=GEl i n;go_wp2_with fail;go_ret;refine⟨_,l,rfl,?_,?_,Hx.o⟩
 ·have:=Ho.o.rd;rw[HB.o];rw[← Hl.o]at this⊢;exact this
 rw[Hl.o];have:i*4097≤4097*4097:=Zje _ (by omega);omega
def F8(w:World)(e:Ending)(w':World):Prop:=∃ x y:Int,e=.returned (.tuple #[.int .i64 x,.int .i64 y])∧Ext w w'
theorem strs_get{w:World}{S:Nat→Prop}{v:Value}{l:List ByteArray}(h:RdE Jr w S v l){j:Nat}{x:ByteArray}(hj:l[j]?=some x) :
 ∃ g o c,v=.slice (some ⟨g,o,none⟩) l.length c∧l.length≤c∧c≤maxLen∧S g∧g<w.heap.size∧w.cell? ⟨g,o+j,none⟩=some (.string x):=by
 obtain⟨g,o,c,h1,h2,h3,h4,h5,h6⟩:=Rd.at_ h (Zr.1 hj).1;exact⟨g,o,c,h1,h2,h3,h4,h5,h6 j _ (by show(l.map Value.string)[j]?=_;rw[Zn,hj];rfl)⟩
def Zlt(l:List ByteArray):Int:=l.foldl (fun z s=>z+(s.size:Int)) 0
theorem Zrp(l:List ByteArray)(s:ByteArray):Zlt (l++[s])=Zlt l+s.size:=by unfold Zlt;rw[Zif];rfl
def noB(l:List ByteArray):Bool:=l.any fun s=>s.size==0
theorem Zpm(l:List ByteArray)(s:ByteArray):noB (l++[s])=(noB l||s.size==0):=by unfold noB;rw[Zgm];simp
def clE(l:List ByteArray):Int:=if l.length=0∨noB l=true then 10 else if 127<l.length∨253<(l.length:Int)-1+Zlt l then 11 else 0
theorem Zn7{l:List ByteArray}(h:clE l=0):l.length≠0∧∀ s∈l,1≤s.size:=by
 unfold clE at h;split at h
 ·simp at h
 rename_i q;refine⟨fun e=>q (.inl e),fun s hs=>?_⟩;rcases Zj4 s.size with e|e
 ·exact absurd (.inr (by unfold noB;rw[Zii];exact⟨s,hs,by simp[e]⟩)) q
 exact e
def Zyt(l:List ByteArray)(w:World)(e:Ending)(w':World):Prop:=∃ x:Int,e=.returned (.tuple #[.int .i64 x,.int .i64 (clE l)])∧Ext w w'
theorem Og{s:ByteArray}:s.toList.isEmpty=(s.size==0):=by
 rw[Zj1];show s.data.toList.isEmpty=(s.data.size==0);rw[← Zh3];cases s.data.toList<;>rfl
theorem Un{S:Nat→Prop}(v:Value)(l:List ByteArray)(w:World)(h:RdE Jr w S v l)(hl:l.length≤5000)(hs:∀ s∈l,s.size≤63):Calls prog 206 #[v] w (Zyt l w):=by
 obtain⟨A,C,rfl,hlC,hC⟩:=h.shape;obtain⟨n,hnn⟩:=gnX (l.length);obtain⟨E,hE⟩:=gnX (clE l);unfold Zyt;rw[hnn]at hlC hl⊢;rw[hE];have Hnn:=Y4 hnn;have HE:=Y4 hE;have Hh:=Y4 h;have Hs:=Y4 hs;clear h hnn hs hE;go_enter func206,ntmps206;by_cases h0:n=0
 ·subst h0;obtain rfl:E=10:=by rw[← HE.o];unfold clE;rw[Zjx (.inl Hnn.o)]
  go_wp2_with fail;go_ret2;exact⟨_,rfl,Yl _⟩
 have d0:((n:Int)==0)=false:=by simp;omega
 have d0b:(n==0)=false:=by simp;omega
 obtain⟨Z0,hZ0⟩:=gnX ((n:Int)-1);have r0:IntKind.i64.wrap ((n:Int)-1)=Z0:=by rw[Yp _ (by omega)];exact hZ0
 have Hz0:=Y4 hZ0;have Hn0:=Y4 h0;clear h0 hZ0;go_wp2_with fail;go_loopw [15,4] (fun o t wr=>∃ (i:Nat) (z:Int),i≤n∧o=.int .i64 (i:Int)∧t=.int .i64 z∧z=Z0+Zlt (l.take i)∧noB (l.take i)=false∧-1≤z∧z≤5000+63*i∧Ext w wr) (fun o _ _=>n-(intOf o).toNat);case atStart=>exact⟨0,_,by omega,rfl,rfl,by simp[Zlt],rfl,by have:=Hz0.o;omega,by have:=Hz0.o;omega,Yl _⟩
 obtain⟨i,z,hi,rfl,rfl,hz,hno,hz1,hz2,hx⟩:=hrel;have Hx:=Y4 hx;have HZ:=Y4 hz;have HNo:=Y4 hno;clear hx hz hno;by_cases hlt:i<n
 ·obtain⟨hd_i,i0_i,i1_i⟩:=LTl i n;obtain⟨x,hx⟩:=geX (l:=l) (i:=i) (by rw[Hnn.o];exact hlt);obtain⟨g,o,c,hv,_,_,_,hg,c0⟩:=strs_get (Hh.o.ext Hx.o) hx;rw[Hnn.o]at hv;simp only[Ye]at hv;obtain⟨rfl,-,rfl⟩:=hv;have hxs:=Hs.o x (Zy hx);have d63:decide ((63:Int)<(x.size:Int))=false:=Yg;have d63b:decide (63<x.size)=false:=Yg;have Htk:=Y4 (show l.take (i+1)=l.take i++[x] by rw[Za,hx];rfl);have Hmx:=Y4 (Zy hx);obtain⟨Z1,hZ1⟩:=gnX (z+(x.size:Int));have r1:IntKind.i64.wrap (z+(x.size:Int))=Z1:=by rw[Yp _ (by omega)];exact hZ1
  have HZ1:=Y4 hZ1;have Hb1:=Y4 (show -1≤Z1 by omega);have Hb2:=Y4 (show Z1≤5000+63*((i+1:Nat):Int) by omega);clear hx hZ1 hz1 hz2;cases he:x.toList.isEmpty
  ·have Hne:=Y4 (show(x.size==0)=false by rw[← Og];exact he);go_wp2_with fail;go_roundw;case rel=>exact⟨i+1,_,by omega,by go_num,rfl,by rw[Htk.o,Zrp,← HZ1.o,HZ.o];omega,by rw[Htk.o,Zpm,HNo.o,Hne.o];rfl,Hb1.o,Hb2.o,Hx.o⟩
   (simp[intOf];omega)
  have Hne:=Y4 (show(x.size==0)=true by rw[← Og];exact he);obtain rfl:E=10:=by
   rw[← HE.o];unfold clE;rw[Zjx (.inr (by unfold noB;rw[Zii];exact⟨x,Hmx.o,Hne.o⟩))]
  go_wp2_with fail;go_ret2;exact⟨_,rfl,Hx.o⟩
 have hd_i:=GEl i n;obtain rfl:i=n:=by omega
 have htk:l.take i=l:=Zm (by rw[Hnn.o];exact Yn _);have Hq:=Y4 (show ¬ (l.length=0∨noB l=true) by
  rintro(e|e)
  ·rw[Hnn.o]at e;exact Hn0.o e
  have:=HNo.o;rw[htk,e]at this;simp at this)
 have Hz:=Y4 (show z=(l.length:Int)-1+Zlt l by rw[HZ.o,htk,← Hz0.o,Hnn.o]);clear htk;cases q1:decide ((127:Int)<(i:Int))
 ·cases q2:decide ((253:Int)<z)
  ·obtain rfl:E=0:=by
    rw[← HE.o];unfold clE;have a:=Zj8 q1;have b:=Zj8 q2;rw[Zk9 Hq.o,Zk9 (by rw[← Hz.o,Hnn.o];omega)]
   have q1b:decide (127<i)=false:=Yg (by have:=Zj8 q1;omega);go_wp2_with fail;go_ret2;exact⟨_,rfl,Hx.o⟩
  obtain rfl:E=11:=by
   rw[← HE.o];unfold clE;have b:=Ziq q2;rw[Zk9 Hq.o,Zjx (by rw[← Hz.o];omega)]
  have q1b:decide (127<i)=false:=Yg (by have:=Zj8 q1;omega);go_wp2_with fail;go_ret2;exact⟨_,rfl,Hx.o⟩
 obtain rfl:E=11:=by
  rw[← HE.o];unfold clE;have a:=Ziq q1;rw[Zk9 Hq.o,Zjx (by rw[Hnn.o];omega)]
 have q1b:decide (127<i)=true:=Yf (by have:=Ziq q1;omega);go_wp2_with fail;go_ret2;exact⟨_,rfl,Hx.o⟩
def Zqt(N:Nat)(l:List ByteArray)(w:World)(e:Ending)(w':World):Prop:=∃ (s:ByteArray) (y:Int),e=.returned (.tuple #[.string s,.int .i64 y])∧s.size≤N∧(clE l=0→∀ x,l=[x]→s.size=x.size)∧Ext w w'
theorem Zwc{S:Nat→Prop}(v:Value)(l:List ByteArray)(w:World)(h:RdE Jr w S v l)(hl:l.length≤5000)(hs:∀ s∈l,s.size≤63):Calls prog 207 #[v] w (Zqt 400000 l w):=by
 obtain⟨A,C,rfl,hlC,hC⟩:=h.shape;obtain⟨n,hnn⟩:=gnX (l.length);have hI:RdE Jr w S (.slice A n C) l:=by rw[← hnn];exact h
 rw[hnn]at hlC hl⊢;have Hnn:=Y4 hnn;have Hh:=Y4 hI;have Hs:=Y4 hs;clear h hnn hs hI;go_enter func207,ntmps207;go_wp2_with fail;refine(Un _ l _ Hh.o (by rw[Hnn.o];exact hl) Hs.o).mono ?_;rintro e w1 ⟨x,rfl,hx1⟩;obtain⟨y,hye⟩:=gnX (clE l);rw[hye];have Hye:=Y4 hye;have Hx1:=Y4 hx1;clear hx1 hye;by_cases hy:y=0
 ·subst hy;go_wp2_with fail;go_loopw [19,6] (fun o t wr=>∃ (i:Nat) (u:ByteArray),i≤n∧o=.int .i64 (i:Int)∧t=.string u∧u.size≤i*64∧(i=1→∀ x,l=[x]→u.size=x.size)∧Ext w wr) (fun o _ _=>n-(intOf o).toNat);case atStart=>exact⟨0,⟨#[]⟩,by omega,rfl,rfl,by show 0≤_;omega,fun h=>by omega,Hx1.o⟩
  obtain⟨i,u,hi,rfl,rfl,hu,hone,hx⟩:=hrel;have Hx:=Y4 hx;have Hone:=Y4 hone;clear hx Hx1 hone;by_cases hlt:i<n
  ·obtain⟨hd_i,i0_i,i1_i⟩:=LTl i n;obtain⟨x,hx⟩:=geX (l:=l) (i:=i) (by rw[Hnn.o];exact hlt);obtain⟨g,o,c,hv,_,_,_,hg,c0⟩:=strs_get (Hh.o.ext Hx.o) hx;simp only[Ye]at hv;obtain⟨rfl,-,rfl⟩:=hv;have hxs:=Hs.o x (Zy hx);have hus:¬ 9223372036854775807<u.size+x.size:=by omega
   have hus1:¬ 9223372036854775807<u.size+1:=by omega
   have hus2:¬ 9223372036854775807<u.size+1+x.size:=by omega
   have Hxi:=Y4 hx;have Hu:=Y4 hu;clear hx;by_cases hi0:0<i
   ·have d1:decide ((0:Int)<(i:Int))=true:=Yf;have d2:decide (0<i)=true:=Yf hi0;go_wp2_with fail;go_roundw;case rel=>exact⟨i+1,_,by omega,by go_num,rfl,(by rw[Ym,Ym];have:=Hu.o;show u.size+1+x.size≤_;omega),fun h=>by omega,Hx.o⟩
    (simp[intOf];omega)
   have d1:decide ((0:Int)<(i:Int))=false:=Yg;have d2:decide (0<i)=false:=Yg hi0;go_wp2_with fail;go_roundw;case rel =>
    refine⟨i+1,_,by omega,by go_num,rfl,(by rw[Ym];have:=Hu.o;omega),fun h x' hx'=>?_,Hx.o⟩;obtain rfl:i=0:=by omega
    have h1:=Hxi.o;rw[hx']at h1;obtain rfl:=Zjy h1;have:=Hu.o;rw[Ym];omega
   case measure=>(simp[intOf];omega)
  have hd_i:=GEl i n;obtain rfl:i=n:=by omega
  have Hu:=Y4 hu;go_wp2_with fail;go_ret2;exact⟨_,_,rfl,by have:=Hu.o;omega,fun _ x' hx'=>Hone.o (by rw[← Hnn.o,hx'];rfl) x' hx',Hx.o⟩
 have d2:(!(y==0))=true:=by simp[hy]
 have d3:(y !=0)=true:=d2;have Hy:=Y4 hy;clear hy;go_wp2_with fail;go_ret2;exact⟨_,_,rfl,by show 0≤_;omega,fun h=>absurd (Hye.o.symm.trans h) Hy.o,Hx1.o⟩
def Zxe(l:List Int)(w:World)(e:Ending)(w':World):Prop:=∃ v vs,e=.returned v∧Nh w' w.heap.size v vs (Ux l)∧Ext w w'
theorem Zwm(l:List Int)(c:Int):Ux (l++[c])=Ib (Ux l) c:=by unfold Ux;rw[Zif];rfl
theorem Ts(l:List Int):(Ux l).length≤l.length+1:=by
 unfold Ux
 suffices ∀ ls:List (List Int),(l.foldl Ib ls).length≤ls.length+l.length from by have:=this [[]];simp at this⊢;omega
 induction l with
 | nil=>intro ls;simp
 | cons c r ih =>
  intro ls;have h1:(Ib ls c).length≤ls.length+1:=by unfold Ib;split<;>simp
  have:=ih (Ib ls c);simp only[Zgy,Zl]at this⊢;omega
theorem Zpx{N:Nat}{ls:List (List Int)}(h:∀ y∈ls,y.length≤N)(c:Int):∀ y∈Ib ls c,y.length≤N+1:=by
 intro y hy;unfold Ib at hy;split at hy
 ·rcases Zj.1 hy with h1|h1
  ·have:=h y h1;omega
  rw[Zi.1 h1];simp
 rcases Zij hy with h1|h1
 ·have:=h y h1;omega
 rw[h1,Zs,Ziy];cases hq:ls[ls.length-1]? with
 | none=>simp
 | some z=>have:=h z (Zy hq);simp;omega
theorem Tr(l:List Int):∀ y∈Ux l,y.length≤l.length:=by
 suffices ∀ (N:Nat) (ls:List (List Int)),(∀ y∈ls,y.length≤N)→∀ y∈l.foldl Ib ls,y.length≤N+l.length from by
  intro y hy;have:=this 0 [[]] (by simp) y hy;omega
 induction l with
 | nil=>intro N ls h y hy;exact h y hy
 | cons c r ih =>
  intro N ls h y hy;have:=ih (N+1) (Ib ls c) (Zpx h c) y hy;simp;omega
theorem Zwn{S:Nat→Prop}(v:Value)(l:List Int)(w:World)(h:Xx w S v l)(hll:l.length≤4096):Calls prog 211 #[v] w (Zxe l w):=by
 obtain⟨A,C,rfl,hlCC,hCC⟩:=h.shape;obtain⟨n,hnn⟩:=gnX ((l).length);have Hnn:=Y4 hnn;have Hh:=Y4 h;unfold maxLen at hCC;rw[hnn]at hlCC⊢;clear h hnn;rw[Hnn.o]at hll;obtain⟨B,hB⟩:=gnX (w.heap.size);have HB:=Y4 hB;have Ho0:=Y4 (show Nh (w.alloc (.cells #[.slice none 0 0] 22)) B (.slice (some ⟨w.heap.size,0,none⟩) 1 1) [⟨none,0,0⟩] [[]] from⟨by rw[← hB];exact Zs9 w 0 _ rfl,Ztb _ _⟩);clear hB;go_enter func211,ntmps211;go_wp2_with fail;go_loopw [10,3] (fun o u wr=>∃ (i:Nat) (vs:List Sl),i≤n∧o=.int .i64 (i:Int)∧Nh wr B u vs (Ux (l.take i))∧Ext w wr) (fun o _ _=>n-(intOf o).toNat);case atStart=>exact⟨0,_,by omega,rfl,Ho0.o,(Yl w).alloc _⟩
 clear Ho0;obtain⟨i,vs,hi,rfl,ho,hx⟩:=hrel;obtain⟨ls,hls⟩:=gnX (Ux (l.take i));rw[hls]at ho;have hl1:1≤ls.length:=by rw[← hls];exact Tq _
 have hmem:∀ y∈ls,y.length≤4096:=by rw[← hls];intro y hy;exact Zjw (Tr _ y hy) (by rw[Zp];omega)
 have Hmem:=Y4 hmem;clear hmem;have hl2:ls.length≤4097:=by rw[← hls];exact Zjw (Ts _) (by rw[Zp];omega)
 obtain⟨m,hm⟩:=gnX (ls.length);have hvm:vs.length=m:=by rw[ho.2.1,hm]
 rw[hm]at hl1 hl2;obtain⟨g,C2,rfl,hg1,hg2,hg3,hg4⟩:=ho.1.some_ (by omega);rw[hvm]at hg3 ho⊢;have Hx:=Y4 hx;have Ho:=Y4 ho;have Hls:=Y4 hls;have Hm:=Y4 hm;have Hvm:=Y4 hvm;have hBw:B≤wr.heap.size:=by rw[← HB.o];exact hx.size
 unfold maxLen at hg4;clear hx ho hls hm hvm;by_cases hlt:i<n
 ·obtain⟨hd_i,i0_i,i1_i⟩:=LTl i n;obtain⟨x,hs_x⟩:=geX (l:=(l)) (i:=i) (by have:=Hnn.o;omega);obtain⟨g_x,o_x,c_x,hvv,_,_,_,hgl_x,a0_x⟩:=(Hh.o.ext Hx.o).get hs_x;simp only[Ye]at hvv;obtain⟨rfl,-,rfl⟩:=hvv;have Hs_x:=Y4 hs_x;clear hs_x;have Hnew:=Y4 (show Ux (l.take (i+1))=Ib ls x by rw[Za,Hs_x.o];show Ux (l.take i++[x])=_;rw[Zwm,Hls.o]);by_cases h46:x=46
  ·subst h46;go_wp2_with (at_builtin;refine Xt Zlf _ _ _ rfl rfl rfl rfl (Ho.o.1.ext ((Yl _).alloc _)) rfl (Zkq wr _ rfl) (by rw[Hvm.o];simp;omega) (by show 24≤1000;omega) (by simp;omega) ?_;intro A3 n3 c3 w3 hg);have Hg:=Y4 hg;clear hg;go_wp2_with fail;go_roundw;case rel =>
    refine⟨i+1,vs++[⟨none,0,0⟩],by omega,by go_num,?_,Hg.o.ext w (Hx.o.alloc _) (by rw[HB.o];exact Yn _)⟩;rw[Hnew.o,show Ib ls 46=ls++[[]] from Zjx rfl];refine⟨Hg.o.own,Zwh ?_ (Xx.nil _ _)⟩;have h1:Ke (wr.alloc (.cells #[.slice none 0 0] 22)) (fun k=>(Value.slice (some ⟨g,0,none⟩) m C2).ownBlock≠some k∧k<wr.heap.size) vs ls:=(Ho.o.2.mono fun k hk hl=>⟨hk,hl⟩).ext ((Yl _).alloc _)
    refine(h1.chg Hg.o.chg fun k hk=>hk.1).mono fun k hk _=>?_
    rcases Hg.o.at_ with h|h
    ·rw[h];exact hk.1
    rw[h];simp;have:=hk.2;omega
   case measure=>(simp[intOf];omega)
  have h46b:(x==46)=false:=by simp[h46]
  have Hne:=Y4 h46;clear h46;have p1:=Vl m (by omega) (by omega);have p3:(0:Int)≤((m-1:Nat):Int):=by omega
  have p4:((m-1:Nat):Int)<(m:Int):=by omega
  have p6:m-1<m:=by omega
  obtain⟨q,hq⟩:=gnX (m-1);rw[hq]at p1 p3 p4 p6;have Hq:=Y4 hq;clear hq;obtain⟨s,hs⟩:=geX (l:=vs) (i:=q) (by rw[Hvm.o];exact p6);obtain⟨y,hy⟩:=geX (l:=ls) (i:=q) (by rw[Hm.o];exact p6);have hsy:=Ho.o.2.2 q s y hs hy;have c0:=Ho.o.1.at_ (Fy hs);obtain⟨sa,sn,sc⟩:=s;have hsn:sn=y.length:=by
   obtain⟨_,_,e,_⟩:=hsy.shape;simp only[Sl.v,Ye]at e;exact e.2.1
  subst hsn;simp only[Sl.v]at c0 hsy;have Hsy:=Y4 hsy;have Hys:=Y4 hy;have Hss:=Y4 hs;clear hs hy hsy;have hyl:y.length≤4096:=Hmem.o y (Zy Hys.o);obtain⟨yn,hyn⟩:=gnX (y.length);have Hyn:=Y4 hyn;rw[hyn]at c0 hyl;clear hyn;go_wp2_with (first|(at_builtin;refine Xt Wb _ _ _ rfl rfl rfl rfl (Own.nil Wb _ B) rfl (show RdE Wb wr _ (.slice sa yn sc) y from(by have:=Hsy.o;rwa [Hyn.o]at this)) (by rw[Hyn.o];simp;omega) (by show 8≤1000;omega) hBw ?_;intro A4 n4 c4 w4 hg4;have Ha4:=Y4 (show ∀ k,k<wr.heap.size→¬ (Value.slice A4 n4 c4).ownBlock=some k by intro k hk he;rcases hg4.at_ with h|h<;>rw[he]at h;cases h;(simp at h;omega));have Ho4:=Y4 (Own.chg Ho.o.1 hg4.chg (fun k _ h=>by cases h));have Hl4:=Y4 (Ke.chg (Ho.o.2.mono fun k hk hl=>(⟨hk,hl⟩:_∧k<wr.heap.size)) hg4.chg (fun k _ h=>by cases h));have Hx4:=Y4 (hg4.ext w Hx.o (by rw[HB.o];exact Yn _));have Hg4:=Y4 hg4;have hs4:=hg4.chg.size;clear hg4)|(at_builtin;refine Xt Wb _ _ _ rfl rfl rfl rfl (Hg4.o.own.ext ((Yl _).alloc _)) rfl (Wr w4 x _ _ rfl) (by rw[Zs,Hyn.o];simp;omega) (by show 8≤1000;omega) (by simp;omega) ?_;intro A5 n5 c5 w5 hg5;have ho5:=Own.chg (Ho4.o.ext ((Yl _).alloc _)) hg5.chg (fun k hk=>Ha4.o k (by simp[Value.ownBlock]at hk;omega));have Hl5:=Y4 (Ke.chg (Hl4.o.ext ((Yl _).alloc _)) hg5.chg (fun k hk=>Ha4.o k hk.2));have hc5:=ho5.at_ (Fy Hss.o);simp only[Sl.v]at hc5;rw[Hyn.o]at hc5;have htw5:=ho5.thaw q;have hgb5:=ho5.blk.2;have Ho5:=Y4 ho5;have Hx5:=Y4 (hg5.ext w (Hx4.o.alloc _) (by rw[HB.o];exact Yn _));have Hg5:=Y4 hg5;clear hg5 ho5));go_roundw;case rel =>
   refine⟨i+1,vs.set q ⟨A5,n5,c5⟩,by omega,by go_num,?_,Ya Hx5.o (by show w.heap.size≤g;rw[HB.o];exact hg1) _⟩;have hy2:(ls.getD (ls.length-1) [])=y:=by rw[Hm.o,Hq.o,Ziy,Hys.o];rfl
   rw[Hnew.o,show Ib ls x=ls.set (ls.length-1) ((ls.getD (ls.length-1) [])++[x]) from Zk9 Hne.o,hy2,Hm.o,Hq.o];refine⟨Ho5.o.put rfl (by rw[Hvm.o];exact p6) ⟨A5,n5,c5⟩ rfl,Tm ?_ ?_ q⟩
   ·exact(Hl5.o.chg ((Chg.refl (· = g) w5).setCell (p:=⟨g,q,none⟩) (.inl rfl) _) fun k hk e=>hk.1 (by rw[e];rfl)).mono fun k hk _=>hk.1
   have h1:Xx w5 (fun k=>(Value.slice (some ⟨g,0,none⟩) m C2).ownBlock≠some k) (.slice A5 n5 c5) (y++[x]):=by
    have h2:=Hg5.o.own;rw[Zo]at h2;have e5:n5=(y++[x]).length:=by have:=Hg5.o.len;rwa [Zo]at this
    rw[e5]at h2⊢;refine Rd.of_own h2 fun k hk=>?_
    rw[← e5]at hk;intro e;have hkg:g=k:=by simpa[Value.ownBlock]using e
    subst hkg;rcases Hg5.o.at_ with h|h
    ·exact Ha4.o g hg2 (h.symm.trans hk)
    have h':(Value.slice A5 n5 c5).ownBlock=some g:=hk;rw[h']at h;simp at h;omega
   exact h1.chg ((Chg.refl (· = g) w5).setCell (p:=⟨g,q,none⟩) (.inl rfl) _) fun k hk e=>hk (by rw[e];rfl)
  case measure=>(simp[intOf];omega)
 have hd_i:=GEl i n;obtain rfl:i=n:=by omega
 go_wp2_with fail;go_ret;refine⟨_,vs,rfl,?_,Hx.o⟩;rw[HB.o];have:=Ho.o;rw[← Hls.o,Zm (by rw[Hnn.o];omega)]at this;exact this
