/- Lemmas of this claim: P8, Pa, P9, Ta, Tb, Tc, Td, Te. Conditions: as named. -/
import Derived.Test.YtnbclgbicnpmnaaGreatA15
namespace Go.Proofs.YtnbclgbicnpmnaaGreat
open Go.RowKit Go.Sort Tryz
set_option maxHeartbeats 0
set_option maxRecDepth 100000
set_option linter.all false
theorem Zp0(w:World)(t:TypeId)(g:Nat)(hg:w.heap.size=g):Own Zi9 (w.alloc (.cells #[.slice none 0 0] 22)) w.heap.size (.slice (some ⟨g,0,none⟩) 1 1) [⟨none,0,0⟩]:=by
 subst hg;exact⟨rfl,.inr ⟨w.heap.size,1,_,rfl,Ym _,Zg3 w _,Ym _,by unfold maxLen;omega,rfl,rfl⟩⟩
theorem Zhd(w:World)(g:Nat)(hg:w.heap.size=g):RdE Zi9 (w.alloc (.cells #[.slice none 0 0] 22)) (fun _=>True) (.slice (some ⟨g,0,none⟩) 1 1) [⟨none,0,0⟩] :=
 Rd.mono (Zp0 w 0 g hg).rd fun _ _ _=>trivial
theorem Zqs(w:World)(S:Nat→Prop):Um w S [⟨none,0,0⟩] [[]]:=⟨rfl,fun j s x h1 h2=>by
 cases j with
 | zero=>simp at h1 h2;subst h1 h2;exact Xw.nil _ _
 | succ j=>simp at h1⟩
theorem Zur{w:World}{S:Nat→Prop}{vs:List Sl}{ls:List (List Int)}(h:Um w S vs ls){s:Sl}{x:List Int}(hs:Xw w S s.v x):Um w S (vs++[s]) (ls++[x]):=by
 refine⟨by simp[h.1],fun j a b h1 h2=>?_⟩;rcases Zff j vs.length with hj|hj
 ·rw[Ze hj]at h1;rw[Ze (by rw[← h.1];exact hj)]at h2;exact h.2 j a b h1 h2
 rw[Zd hj]at h1;rw[Zd (by rw[← h.1];exact hj),← h.1]at h2;rcases hk:j-vs.length with _|k
 ·rw[hk]at h1 h2;simp at h1 h2;subst h1 h2;exact hs
 rw[hk]at h1;simp at h1
theorem I7{w:World}{S:Nat→Prop}{vs:List Sl}{ls:List (List Int)}(h:Um w S vs ls){s:Sl}{x:List Int}(hs:Xw w S s.v x)(i:Nat):Um w S (vs.set i s) (ls.set i x):=by
 refine⟨by simp[h.1],fun j a b h1 h2=>?_⟩;rw[Yv]at h1 h2;by_cases hij:i=j
 ·subst hij;rw[Zgn rfl]at h1 h2;split at h1
  ·rw[Zgn (by rw[← h.1];assumption)]at h2;cases h1;cases h2;exact hs
  cases h1
 rw[Zgq hij]at h1 h2;exact h.2 j a b h1 h2
def Zzg(ls:List (List Int))(c:Int):List (List Int):=if c=46 then ls++[[]]else ls.set (ls.length-1) ((ls.getD (ls.length-1) [])++[c])
def Gy(l:List Int):List (List Int):=l.foldl Zzg [[]]
theorem Zmo(ls:List (List Int))(c:Int):ls.length≤(Zzg ls c).length:=by
 unfold Zzg;split<;>simp
theorem I3(l:List Int):1≤(Gy l).length:=by
 unfold Gy
 suffices ∀ ls:List (List Int),1≤ls.length→1≤(l.foldl Zzg ls).length from this _ (by simp)
 induction l with
 | nil=>intro ls h;exact h
 | cons c r ih=>intro ls h;exact ih _ (Zgo h (Zmo ls c))
def Zsz(N:Nat)(w:World)(e:Ending)(w':World):Prop:=∃ (v:Value) (l:List Int),e=.returned v∧RdE Ww w' (fun k=>w.heap.size≤k) v l∧l.length≤N∧Ext w w'
theorem Zms(v:Value)(ls:List (List Int))(w:World)(h:Zvq w v ls)(hn:ls.length≤4097)(hm:∀ y∈ls,y.length≤4096):Calls prog 222 #[v] w (Zsz 20000000 w):=by
 obtain⟨A,C,rfl,hlC,hC⟩:=h.shape;obtain⟨n,hnn⟩:=gnX (ls.length);rw[hnn]at hlC hn⊢;have Hnn:=Y8 hnn;have Hh:=Y8 h;have Hm:=Y8 hm;obtain⟨B,hB⟩:=gnX (w.heap.size);have HB:=Y8 hB;clear h hnn hm hB;go_enter func222,ntmps222;go_wp2_with fail;go_loopw [8,3] (fun o u wr=>∃ (i:Nat) (l:List Int),i≤n∧o=.int .i64 (i:Int)∧Own Ww wr B u l∧l.length≤i*4097∧Ext w wr) (fun o _ _=>n-(intOf o).toNat);case atStart=>exact⟨0,[],by omega,rfl,Own.nil _ _ _,by simp,Yk _⟩
 obtain⟨i,l,hi,rfl,ho,hli,hx⟩:=hrel;obtain⟨A2,C2,rfl,hlC2,hC2⟩:=ho.shape;obtain⟨m,hm⟩:=gnX (l.length);have hoI:Own Ww wr B (.slice A2 m C2) l:=by rw[← hm];exact ho
 rw[hm]at hlC2 hli⊢;have Hx:=Y8 hx;have Ho:=Y8 hoI;have Hl:=Y8 hm;have hBw:B≤wr.heap.size:=by rw[← HB.o];exact hx.size
 unfold maxLen at hC2;clear hx ho hoI hm;by_cases hlt:i<n
 ·obtain⟨hd_i,i0_i,i1_i⟩:=LTl i n;obtain⟨x,hx⟩:=geX (l:=ls) (i:=i) (by rw[Hnn.o];exact hlt);obtain⟨g,o,c,u,hv,_,_,hg,c0,hxu⟩:=Hh.o.get hx;obtain⟨rfl,-,rfl⟩:=slcX hv;clear hv;replace c0:=(Hx.o.cell (p:=⟨g,o+i,none⟩) hg).trans c0;have hxl:=Hm.o x (Zy hx);obtain⟨A3,C3,rfl,hl3,hc3⟩:=hxu.shape;obtain⟨k,hk⟩:=gnX (x.length);have Hxu:=Y8 (show RdE Ww w (fun _=>True) (.slice A3 k C3) x by rw[← hk];exact hxu);rw[hk]at c0 hl3 hxl;have Hk:=Y8 hk;clear hx hxu hk;have hi1:i*4097≤4097*4097:=Zgi _ (by omega);have hi2:(i+1)*4097=i*4097+4097:=by omega
  have Hi2:=Y8 hi2;clear hi2;by_cases hi0:0<i
  ·have d1:decide ((0:Int)<(i:Int))=true:=Ye;go_wp2_with (first|(at_builtin;refine Xt Ww _ _ _ rfl rfl rfl rfl (Ho.o.ext ((Yk _).alloc _)) rfl (Ws wr 46 _ _ rfl) (by rw[Hl.o];show m+1≤_;omega) (by show 8≤1000;omega) (by simp;omega) ?_;intro A4 n4 c4 w4 hg4;have Hx4:=Y8 (hg4.ext w (Hx.o.alloc _) (by rw[HB.o];exact Ym _));have Hl4:=Y8 (show n4=m+1 by(rw[hg4.len,Zs,Hl.o];rfl));have HB4:=Y8 (show B≤w4.heap.size by rw[← HB.o];exact Hx4.o.size);have Hg4:=Y8 hg4;clear hg4)|(at_builtin;refine Xt Ww _ _ _ rfl rfl rfl rfl Hg4.o.own rfl (Hxu.o.ext Hx4.o) (by rw[← Hg4.o.len,Hl4.o,Hk.o];omega) (by show 8≤1000;omega) HB4.o ?_;intro A5 n5 c5 w5 hg5;have Hx5:=Y8 (hg5.ext w Hx4.o (by rw[HB.o];exact Ym _));have Hl5:=Y8 (show n5=m+1+k by(rw[hg5.len,Zs,← Hg4.o.len,Hl4.o,Hk.o]));have Hg5:=Y8 hg5;clear hg5));go_roundw;case rel=>exact⟨i+1,_,by omega,by go_num,Hg5.o.own,by rw[← Hg5.o.len,Hl5.o,Hi2.o];omega,Hx5.o⟩
   (simp[intOf];omega)
  have d1:decide ((0:Int)<(i:Int))=false:=Yf;go_wp2_with (at_builtin;refine Xt Ww _ _ _ rfl rfl rfl rfl Ho.o rfl (Hxu.o.ext Hx.o) (by rw[Hl.o,Hk.o];omega) (by show 8≤1000;omega) hBw ?_;intro A5 n5 c5 w5 hg5;have Hx5:=Y8 (hg5.ext w Hx.o (by rw[HB.o];exact Ym _));have Hl5:=Y8 (show n5=m+k by(rw[hg5.len,Zs,Hl.o,Hk.o]));have Hg5:=Y8 hg5;clear hg5);go_roundw;case rel=>exact⟨i+1,_,by omega,by go_num,Hg5.o.own,by rw[← Hg5.o.len,Hl5.o,Hi2.o];omega,Hx5.o⟩
  (simp[intOf];omega)
 have hd_i:=GEl i n;go_wp2_with fail;go_ret;refine⟨_,l,rfl,?_,?_,Hx.o⟩
 ·have:=Ho.o.rd;rw[HB.o];rw[← Hl.o]at this⊢;exact this
 rw[Hl.o];have:i*4097≤4097*4097:=Zgi _ (by omega);omega
def Mn(w:World)(e:Ending)(w':World):Prop:=∃ x y:Int,e=.returned (.tuple #[.int .i64 x,.int .i64 y])∧Ext w w'
theorem strs_get{w:World}{S:Nat→Prop}{v:Value}{l:List ByteArray}(h:RdE Vm w S v l){j:Nat}{x:ByteArray}(hj:l[j]?=some x) :
 ∃ g o c,v=.slice (some ⟨g,o,none⟩) l.length c∧l.length≤c∧c≤maxLen∧S g∧g<w.heap.size∧w.cell? ⟨g,o+j,none⟩=some (.string x):=by
 obtain⟨g,o,c,h1,h2,h3,h4,h5,h6⟩:=Rd.at_ h (Zr.1 hj).1;exact⟨g,o,c,h1,h2,h3,h4,h5,h6 j _ (by show(l.map Value.string)[j]?=_;rw[Zn,hj];rfl)⟩
def Zig(l:List ByteArray):Int:=l.foldl (fun z s=>z+(s.size:Int)) 0
theorem Zov(l:List ByteArray)(s:ByteArray):Zig (l++[s])=Zig l+s.size:=by unfold Zig;rw[Zeg];rfl
def noB(l:List ByteArray):Bool:=l.any fun s=>s.size==0
theorem Zm1(l:List ByteArray)(s:ByteArray):noB (l++[s])=(noB l||s.size==0):=by unfold noB;rw[List.any_append];simp
def clE(l:List ByteArray):Int:=if l.length=0∨noB l=true then 10 else if 127<l.length∨253<(l.length:Int)-1+Zig l then 11 else 0
theorem Zjl{l:List ByteArray}(h:clE l=0):l.length≠0∧∀ s∈l,1≤s.size:=by
 unfold clE at h;split at h
 ·simp at h
 rename_i q;refine⟨fun e=>q (.inl e),fun s hs=>?_⟩;rcases Zfs s.size with e|e
 ·exact absurd (.inr (by unfold noB;rw[Zdx];exact⟨s,hs,by simp[e]⟩)) q
 exact e
def Zxa(l:List ByteArray)(w:World)(e:Ending)(w':World):Prop:=∃ x:Int,e=.returned (.tuple #[.int .i64 x,.int .i64 (clE l)])∧Ext w w'
theorem Ry{s:ByteArray}:s.toList.isEmpty=(s.size==0):=by
 rw[Zg2];show s.data.toList.isEmpty=(s.data.size==0);rw[← Zdw];cases s.data.toList<;>rfl
theorem Gp{S:Nat→Prop}(v:Value)(l:List ByteArray)(w:World)(h:RdE Vm w S v l)(hl:l.length≤5000)(hs:∀ s∈l,s.size≤63):Calls prog 206 #[v] w (Zxa l w):=by
 obtain⟨A,C,rfl,hlC,hC⟩:=h.shape;obtain⟨n,hnn⟩:=gnX (l.length);obtain⟨E,hE⟩:=gnX (clE l);unfold Zxa;rw[hnn]at hlC hl⊢;rw[hE];have Hnn:=Y8 hnn;have HE:=Y8 hE;have Hh:=Y8 h;have Hs:=Y8 hs;clear h hnn hs hE;go_enter func206,ntmps206;by_cases h0:n=0
 ·subst h0;obtain rfl:E=10:=by rw[← HE.o];unfold clE;rw[Zgn (.inl Hnn.o)]
  go_wp2_with fail;go_ret2;exact⟨_,rfl,Yk _⟩
 have d0:((n:Int)==0)=false:=by simp;omega
 have d0b:(n==0)=false:=by simp;omega
 obtain⟨Z0,hZ0⟩:=gnX ((n:Int)-1);have r0:IntKind.i64.wrap ((n:Int)-1)=Z0:=by rw[Yp _ (by omega)];exact hZ0
 have Hz0:=Y8 hZ0;have Hn0:=Y8 h0;clear h0 hZ0;go_wp2_with fail;go_loopw [15,4] (fun o t wr=>∃ (i:Nat) (z:Int),i≤n∧o=.int .i64 (i:Int)∧t=.int .i64 z∧z=Z0+Zig (l.take i)∧noB (l.take i)=false∧-1≤z∧z≤5000+63*i∧Ext w wr) (fun o _ _=>n-(intOf o).toNat);case atStart=>exact⟨0,_,by omega,rfl,rfl,by simp[Zig],rfl,by have:=Hz0.o;omega,by have:=Hz0.o;omega,Yk _⟩
 obtain⟨i,z,hi,rfl,rfl,hz,hno,hz1,hz2,hx⟩:=hrel;have Hx:=Y8 hx;have HZ:=Y8 hz;have HNo:=Y8 hno;clear hx hz hno;by_cases hlt:i<n
 ·obtain⟨hd_i,i0_i,i1_i⟩:=LTl i n;obtain⟨x,hx⟩:=geX (l:=l) (i:=i) (by rw[Hnn.o];exact hlt);obtain⟨g,o,c,hv,_,_,_,hg,c0⟩:=strs_get (Hh.o.ext Hx.o) hx;rw[Hnn.o]at hv;obtain⟨rfl,-,rfl⟩:=slcX hv;clear hv;have hxs:=Hs.o x (Zy hx);have d63:decide ((63:Int)<(x.size:Int))=false:=Yf;have d63b:decide (63<x.size)=false:=Yf;have Htk:=Y8 (show l.take (i+1)=l.take i++[x] by rw[Za,hx];rfl);have Hmx:=Y8 (Zy hx);obtain⟨Z1,hZ1⟩:=gnX (z+(x.size:Int));have r1:IntKind.i64.wrap (z+(x.size:Int))=Z1:=by rw[Yp _ (by omega)];exact hZ1
  have HZ1:=Y8 hZ1;have Hb1:=Y8 (show -1≤Z1 by omega);have Hb2:=Y8 (show Z1≤5000+63*((i+1:Nat):Int) by omega);clear hx hZ1 hz1 hz2;cases he:x.toList.isEmpty
  ·have Hne:=Y8 (show(x.size==0)=false by rw[← Ry];exact he);go_wp2_with fail;go_roundw;case rel=>exact⟨i+1,_,by omega,by go_num,rfl,by rw[Htk.o,Zov,← HZ1.o,HZ.o];omega,by rw[Htk.o,Zm1,HNo.o,Hne.o];rfl,Hb1.o,Hb2.o,Hx.o⟩
   (simp[intOf];omega)
  have Hne:=Y8 (show(x.size==0)=true by rw[← Ry];exact he);obtain rfl:E=10:=by
   rw[← HE.o];unfold clE;rw[Zgn (.inr (by unfold noB;rw[Zdx];exact⟨x,Hmx.o,Hne.o⟩))]
  go_wp2_with fail;go_ret2;exact⟨_,rfl,Hx.o⟩
 have hd_i:=GEl i n;obtain rfl:i=n:=by omega
 have htk:l.take i=l:=Zm (by rw[Hnn.o];exact Ym _);have Hq:=Y8 (show ¬ (l.length=0∨noB l=true) by
  rintro(e|e)
  ·rw[Hnn.o]at e;exact Hn0.o e
  have:=HNo.o;rw[htk,e]at this;simp at this)
 have Hz:=Y8 (show z=(l.length:Int)-1+Zig l by rw[HZ.o,htk,← Hz0.o,Hnn.o]);clear htk;cases q1:decide ((127:Int)<(i:Int))
 ·cases q2:decide ((253:Int)<z)
  ·obtain rfl:E=0:=by
    rw[← HE.o];unfold clE;have a:=Zfx q1;have b:=Zfx q2;rw[Zgq Hq.o,Zgq (by rw[← Hz.o,Hnn.o];omega)]
   have q1b:decide (127<i)=false:=Yf (by have:=Zfx q1;omega);go_wp2_with fail;go_ret2;exact⟨_,rfl,Hx.o⟩
  obtain rfl:E=11:=by
   rw[← HE.o];unfold clE;have b:=Zfp q2;rw[Zgq Hq.o,Zgn (by rw[← Hz.o];omega)]
  have q1b:decide (127<i)=false:=Yf (by have:=Zfx q1;omega);go_wp2_with fail;go_ret2;exact⟨_,rfl,Hx.o⟩
 obtain rfl:E=11:=by
  rw[← HE.o];unfold clE;have a:=Zfp q1;rw[Zgq Hq.o,Zgn (by rw[Hnn.o];omega)]
 have q1b:decide (127<i)=true:=Ye (by have:=Zfp q1;omega);go_wp2_with fail;go_ret2;exact⟨_,rfl,Hx.o⟩
def Znt(N:Nat)(l:List ByteArray)(w:World)(e:Ending)(w':World):Prop:=∃ (s:ByteArray) (y:Int),e=.returned (.tuple #[.string s,.int .i64 y])∧s.size≤N∧(clE l=0→∀ x,l=[x]→s.size=x.size)∧Ext w w'
theorem Zum{S:Nat→Prop}(v:Value)(l:List ByteArray)(w:World)(h:RdE Vm w S v l)(hl:l.length≤5000)(hs:∀ s∈l,s.size≤63):Calls prog 207 #[v] w (Znt 400000 l w):=by
 obtain⟨A,C,rfl,hlC,hC⟩:=h.shape;obtain⟨n,hnn⟩:=gnX (l.length);have hI:RdE Vm w S (.slice A n C) l:=by rw[← hnn];exact h
 rw[hnn]at hlC hl⊢;have Hnn:=Y8 hnn;have Hh:=Y8 hI;have Hs:=Y8 hs;clear h hnn hs hI;go_enter func207,ntmps207;go_wp2_with fail;refine(Gp _ l _ Hh.o (by rw[Hnn.o];exact hl) Hs.o).mono ?_;rintro e w1 ⟨x,rfl,hx1⟩;obtain⟨y,hye⟩:=gnX (clE l);rw[hye];have Hye:=Y8 hye;have Hx1:=Y8 hx1;clear hx1 hye;by_cases hy:y=0
 ·subst hy;go_wp2_with fail;go_loopw [19,6] (fun o t wr=>∃ (i:Nat) (u:ByteArray),i≤n∧o=.int .i64 (i:Int)∧t=.string u∧u.size≤i*64∧(i=1→∀ x,l=[x]→u.size=x.size)∧Ext w wr) (fun o _ _=>n-(intOf o).toNat);case atStart=>exact⟨0,⟨#[]⟩,by omega,rfl,rfl,by show 0≤_;omega,fun h=>by omega,Hx1.o⟩
  obtain⟨i,u,hi,rfl,rfl,hu,hone,hx⟩:=hrel;have Hx:=Y8 hx;have Hone:=Y8 hone;clear hx Hx1 hone;by_cases hlt:i<n
  ·obtain⟨hd_i,i0_i,i1_i⟩:=LTl i n;obtain⟨x,hx⟩:=geX (l:=l) (i:=i) (by rw[Hnn.o];exact hlt);obtain⟨g,o,c,hv,_,_,_,hg,c0⟩:=strs_get (Hh.o.ext Hx.o) hx;obtain⟨rfl,-,rfl⟩:=slcX hv;clear hv;have hxs:=Hs.o x (Zy hx);have hus:¬ 9223372036854775807<u.size+x.size:=by omega
   have hus1:¬ 9223372036854775807<u.size+1:=by omega
   have hus2:¬ 9223372036854775807<u.size+1+x.size:=by omega
   have Hxi:=Y8 hx;have Hu:=Y8 hu;clear hx;by_cases hi0:0<i
   ·have d1:decide ((0:Int)<(i:Int))=true:=Ye;have d2:decide (0<i)=true:=Ye hi0;go_wp2_with fail;go_roundw;case rel=>exact⟨i+1,_,by omega,by go_num,rfl,(by rw[Yl,Yl];have:=Hu.o;show u.size+1+x.size≤_;omega),fun h=>by omega,Hx.o⟩
    (simp[intOf];omega)
   have d1:decide ((0:Int)<(i:Int))=false:=Yf;have d2:decide (0<i)=false:=Yf hi0;go_wp2_with fail;go_roundw;case rel =>
    refine⟨i+1,_,by omega,by go_num,rfl,(by rw[Yl];have:=Hu.o;omega),fun h x' hx'=>?_,Hx.o⟩;obtain rfl:i=0:=by omega
    have h1:=Hxi.o;rw[hx']at h1;obtain rfl:=Zgm h1;have:=Hu.o;rw[Yl];omega
   case measure=>(simp[intOf];omega)
  have hd_i:=GEl i n;obtain rfl:i=n:=by omega
  have Hu:=Y8 hu;go_wp2_with fail;go_ret2;exact⟨_,_,rfl,by have:=Hu.o;omega,fun _ x' hx'=>Hone.o (by rw[← Hnn.o,hx'];rfl) x' hx',Hx.o⟩
 have d2:(!(y==0))=true:=by simp[hy]
 have d3:(y !=0)=true:=d2;have Hy:=Y8 hy;clear hy;go_wp2_with fail;go_ret2;exact⟨_,_,rfl,by show 0≤_;omega,fun h=>absurd (Hye.o.symm.trans h) Hy.o,Hx1.o⟩
def Zvr(l:List Int)(w:World)(e:Ending)(w':World):Prop:=∃ v vs,e=.returned v∧Pp w' w.heap.size v vs (Gy l)∧Ext w w'
theorem Zux(l:List Int)(c:Int):Gy (l++[c])=Zzg (Gy l) c:=by unfold Gy;rw[Zeg];rfl
theorem I0(l:List Int):(Gy l).length≤l.length+1:=by
 unfold Gy
 suffices ∀ ls:List (List Int),(l.foldl Zzg ls).length≤ls.length+l.length from by have:=this [[]];simp at this⊢;omega
 induction l with
 | nil=>intro ls;simp
 | cons c r ih =>
  intro ls;have h1:(Zzg ls c).length≤ls.length+1:=by unfold Zzg;split<;>simp
  have:=ih (Zzg ls c);simp only[Zd7,Zl]at this⊢;omega
theorem Zmn{N:Nat}{ls:List (List Int)}(h:∀ y∈ls,y.length≤N)(c:Int):∀ y∈Zzg ls c,y.length≤N+1:=by
 intro y hy;unfold Zzg at hy;split at hy
 ·rcases Zj.1 hy with h1|h1
  ·have:=h y h1;omega
  rw[Zi.1 h1];simp
 rcases Zf2 hy with h1|h1
 ·have:=h y h1;omega
 rw[h1,Zs,Zfr];cases hq:ls[ls.length-1]? with
 | none=>simp
 | some z=>have:=h z (Zy hq);simp;omega
theorem I2(l:List Int):∀ y∈Gy l,y.length≤l.length:=by
 suffices ∀ (N:Nat) (ls:List (List Int)),(∀ y∈ls,y.length≤N)→∀ y∈l.foldl Zzg ls,y.length≤N+l.length from by
  intro y hy;have:=this 0 [[]] (by simp) y hy;omega
 induction l with
 | nil=>intro N ls h y hy;exact h y hy
 | cons c r ih =>
  intro N ls h y hy;have:=ih (N+1) (Zzg ls c) (Zmn h c) y hy;simp;omega
theorem Zuy{S:Nat→Prop}(v:Value)(l:List Int)(w:World)(h:Xw w S v l)(hll:l.length≤4096):Calls prog 211 #[v] w (Zvr l w):=by
 obtain⟨A,C,rfl,hlCC,hCC⟩:=h.shape;obtain⟨n,hnn⟩:=gnX ((l).length);have Hnn:=Y8 hnn;have Hh:=Y8 h;unfold maxLen at hCC;rw[hnn]at hlCC⊢;clear h hnn;rw[Hnn.o]at hll;obtain⟨B,hB⟩:=gnX (w.heap.size);have HB:=Y8 hB;have Ho0:=Y8 (show Pp (w.alloc (.cells #[.slice none 0 0] 22)) B (.slice (some ⟨w.heap.size,0,none⟩) 1 1) [⟨none,0,0⟩] [[]] from⟨by rw[← hB];exact Zp0 w 0 _ rfl,Zqs _ _⟩);clear hB;go_enter func211,ntmps211;go_wp2_with fail;go_loopw [10,3] (fun o u wr=>∃ (i:Nat) (vs:List Sl),i≤n∧o=.int .i64 (i:Int)∧Pp wr B u vs (Gy (l.take i))∧Ext w wr) (fun o _ _=>n-(intOf o).toNat);case atStart=>exact⟨0,_,by omega,rfl,Ho0.o,(Yk w).alloc _⟩
 clear Ho0;obtain⟨i,vs,hi,rfl,ho,hx⟩:=hrel;obtain⟨ls,hls⟩:=gnX (Gy (l.take i));rw[hls]at ho;have hl1:1≤ls.length:=by rw[← hls];exact I3 _
 have hmem:∀ y∈ls,y.length≤4096:=by rw[← hls];intro y hy;exact Zgo (I2 _ y hy) (by rw[Zp];omega)
 have Hmem:=Y8 hmem;clear hmem;have hl2:ls.length≤4097:=by rw[← hls];exact Zgo (I0 _) (by rw[Zp];omega)
 obtain⟨m,hm⟩:=gnX (ls.length);have hvm:vs.length=m:=by rw[ho.2.1,hm]
 rw[hm]at hl1 hl2;obtain⟨g,C2,rfl,hg1,hg2,hg3,hg4⟩:=ho.1.some_ (by omega);rw[hvm]at hg3 ho⊢;have Hx:=Y8 hx;have Ho:=Y8 ho;have Hls:=Y8 hls;have Hm:=Y8 hm;have Hvm:=Y8 hvm;have hBw:B≤wr.heap.size:=by rw[← HB.o];exact hx.size
 unfold maxLen at hg4;clear hx ho hls hm hvm;by_cases hlt:i<n
 ·obtain⟨hd_i,i0_i,i1_i⟩:=LTl i n;obtain⟨x,hs_x⟩:=geX (l:=(l)) (i:=i) (by have:=Hnn.o;omega);obtain⟨g_x,o_x,c_x,hvv,_,_,_,hgl_x,a0_x⟩:=(Hh.o.ext Hx.o).get hs_x;obtain⟨rfl,-,rfl⟩:=slcX hvv;clear hvv;have Hs_x:=Y8 hs_x;clear hs_x;have Hnew:=Y8 (show Gy (l.take (i+1))=Zzg ls x by rw[Za,Hs_x.o];show Gy (l.take i++[x])=_;rw[Zux,Hls.o]);by_cases h46:x=46
  ·subst h46;go_wp2_with (at_builtin;refine Xt Zi9 _ _ _ rfl rfl rfl rfl (Ho.o.1.ext ((Yk _).alloc _)) rfl (Zhd wr _ rfl) (by rw[Hvm.o];simp;omega) (by show 24≤1000;omega) (by simp;omega) ?_;intro A3 n3 c3 w3 hg);have Hg:=Y8 hg;clear hg;go_wp2_with fail;go_roundw;case rel =>
    refine⟨i+1,vs++[⟨none,0,0⟩],by omega,by go_num,?_,Hg.o.ext w (Hx.o.alloc _) (by rw[HB.o];exact Ym _)⟩;rw[Hnew.o,show Zzg ls 46=ls++[[]] from Zgn rfl];refine⟨Hg.o.own,Zur ?_ (Xw.nil _ _)⟩;have h1:Um (wr.alloc (.cells #[.slice none 0 0] 22)) (fun k=>(Value.slice (some ⟨g,0,none⟩) m C2).ownBlock≠some k∧k<wr.heap.size) vs ls:=(Ho.o.2.mono fun k hk hl=>⟨hk,hl⟩).ext ((Yk _).alloc _)
    refine(h1.chg Hg.o.chg fun k hk=>hk.1).mono fun k hk _=>?_
    rcases Hg.o.at_ with h|h
    ·rw[h];exact hk.1
    rw[h];simp;have:=hk.2;omega
   case measure=>(simp[intOf];omega)
  have h46b:(x==46)=false:=by simp[h46]
  have Hne:=Y8 h46;clear h46;have p1:=Ve m (by omega) (by omega);have p3:(0:Int)≤((m-1:Nat):Int):=by omega
  have p4:((m-1:Nat):Int)<(m:Int):=by omega
  have p6:m-1<m:=by omega
  obtain⟨q,hq⟩:=gnX (m-1);rw[hq]at p1 p3 p4 p6;have Hq:=Y8 hq;clear hq;obtain⟨s,hs⟩:=geX (l:=vs) (i:=q) (by rw[Hvm.o];exact p6);obtain⟨y,hy⟩:=geX (l:=ls) (i:=q) (by rw[Hm.o];exact p6);have hsy:=Ho.o.2.2 q s y hs hy;have c0:=Ho.o.1.at_ (Lt hs);obtain⟨sa,sn,sc⟩:=s;have hsn:sn=y.length:=by
   obtain⟨_,_,e,_⟩:=hsy.shape;simp only[Sl.v,Yd]at e;exact e.2.1
  subst hsn;simp only[Sl.v]at c0 hsy;have Hsy:=Y8 hsy;have Hys:=Y8 hy;have Hss:=Y8 hs;clear hs hy hsy;have hyl:y.length≤4096:=Hmem.o y (Zy Hys.o);obtain⟨yn,hyn⟩:=gnX (y.length);have Hyn:=Y8 hyn;rw[hyn]at c0 hyl;clear hyn;go_wp2_with (first|(at_builtin;refine Xt Ww _ _ _ rfl rfl rfl rfl (Own.nil Ww _ B) rfl (show RdE Ww wr _ (.slice sa yn sc) y from(by have:=Hsy.o;rwa [Hyn.o]at this)) (by rw[Hyn.o];simp;omega) (by show 8≤1000;omega) hBw ?_;intro A4 n4 c4 w4 hg4;have Ha4:=Y8 (show ∀ k,k<wr.heap.size→¬ (Value.slice A4 n4 c4).ownBlock=some k by intro k hk he;rcases hg4.at_ with h|h<;>rw[he]at h;cases h;(simp at h;omega));have Ho4:=Y8 (Own.chg Ho.o.1 hg4.chg (fun k _ h=>by cases h));have Hl4:=Y8 (Um.chg (Ho.o.2.mono fun k hk hl=>(⟨hk,hl⟩:_∧k<wr.heap.size)) hg4.chg (fun k _ h=>by cases h));have Hx4:=Y8 (hg4.ext w Hx.o (by rw[HB.o];exact Ym _));have Hg4:=Y8 hg4;have hs4:=hg4.chg.size;clear hg4)|(at_builtin;refine Xt Ww _ _ _ rfl rfl rfl rfl (Hg4.o.own.ext ((Yk _).alloc _)) rfl (Ws w4 x _ _ rfl) (by rw[Zs,Hyn.o];simp;omega) (by show 8≤1000;omega) (by simp;omega) ?_;intro A5 n5 c5 w5 hg5;have ho5:=Own.chg (Ho4.o.ext ((Yk _).alloc _)) hg5.chg (fun k hk=>Ha4.o k (by simp[Value.ownBlock]at hk;omega));have Hl5:=Y8 (Um.chg (Hl4.o.ext ((Yk _).alloc _)) hg5.chg (fun k hk=>Ha4.o k hk.2));have hc5:=ho5.at_ (Lt Hss.o);simp only[Sl.v]at hc5;rw[Hyn.o]at hc5;have htw5:=ho5.thaw q;have hgb5:=ho5.blk.2;have Ho5:=Y8 ho5;have Hx5:=Y8 (hg5.ext w (Hx4.o.alloc _) (by rw[HB.o];exact Ym _));have Hg5:=Y8 hg5;clear hg5 ho5));go_roundw;case rel =>
   refine⟨i+1,vs.set q ⟨A5,n5,c5⟩,by omega,by go_num,?_,Y0 Hx5.o (by show w.heap.size≤g;rw[HB.o];exact hg1) _⟩;have hy2:(ls.getD (ls.length-1) [])=y:=by rw[Hm.o,Hq.o,Zfr,Hys.o];rfl
   rw[Hnew.o,show Zzg ls x=ls.set (ls.length-1) ((ls.getD (ls.length-1) [])++[x]) from Zgq Hne.o,hy2,Hm.o,Hq.o];refine⟨Ho5.o.put rfl (by rw[Hvm.o];exact p6) ⟨A5,n5,c5⟩ rfl,I7 ?_ ?_ q⟩
   ·exact(Hl5.o.chg ((Chg.refl (· = g) w5).setCell (p:=⟨g,q,none⟩) (.inl rfl) _) fun k hk e=>hk.1 (by rw[e];rfl)).mono fun k hk _=>hk.1
   have h1:Xw w5 (fun k=>(Value.slice (some ⟨g,0,none⟩) m C2).ownBlock≠some k) (.slice A5 n5 c5) (y++[x]):=by
    have h2:=Hg5.o.own;rw[Zo]at h2;have e5:n5=(y++[x]).length:=by have:=Hg5.o.len;rwa [Zo]at this
    rw[e5]at h2⊢;refine Rd.of_own h2 fun k hk=>?_
    rw[← e5]at hk;intro e;have hkg:g=k:=by simpa[Value.ownBlock]using e
    subst hkg;rcases Hg5.o.at_ with h|h
    ·exact Ha4.o g hg2 (h.symm.trans hk)
    have h':(Value.slice A5 n5 c5).ownBlock=some g:=hk;rw[h']at h;simp at h;omega
   exact h1.chg ((Chg.refl (· = g) w5).setCell (p:=⟨g,q,none⟩) (.inl rfl) _) fun k hk e=>hk (by rw[e];rfl)
  case measure=>(simp[intOf];omega)
 have hd_i:=GEl i n;obtain rfl:i=n:=by omega
 go_wp2_with fail;go_ret;refine⟨_,vs,rfl,?_,Hx.o⟩;rw[HB.o];have:=Ho.o;rw[← Hls.o,Zm (by rw[Hnn.o];omega)]at this;exact this
theorem Oo(b:Nat)(w:World):Calls prog 167 #[.int .u8 (b:Int)] w (Qm w):=by
 go_enter func167,ntmps167;go_wp2_with fail;all_goals
  go_ret;exact⟨_,rfl,Yk _⟩
def Zsw(N:Nat)(w:World)(e:Ending)(w':World):Prop:=∃ s:ByteArray,e=.returned (.string s)∧s.size≤N∧Ext w w'
def Zzi(b:Nat):Int:=if 48≤b∧b≤57 then(b:Int)-48 else if 65≤b∧b≤70 then(b:Int)-55 else -1
theorem Zrc(b:Nat) : -1≤Zzi b∧Zzi b≤15:=by unfold Zzi;split<;>(try split)<;>omega
theorem Sg(b:Nat)(hb:b≤255)(w:World):Calls prog 198 #[.int .u8 (b:Int)] w fun e w'=>e=.returned (.int .i64 (Zzi b))∧w=w':=by
 by_cases h1:48≤b
 ·have d1:decide ((48:Int)≤(b:Int))=true:=Ye;by_cases h2:b≤57
  ·have d2:decide ((b:Int)≤57)=true:=Ye;have e:Zzi b=(b:Int)-48:=by unfold Zzi;rw[Zgn ⟨h1,h2⟩]
   rw[e];have r1:IntKind.u8.wrap ((b:Int)-48)=(b:Int)-48:=Zf7 _ (by omega);have r2:IntKind.i64.wrap ((b:Int)-48)=(b:Int)-48:=Yp _ (by omega);go_enter func198,ntmps198;go_wp2_with fail;go_ret;exact⟨rfl,rfl⟩
  have d2:decide ((b:Int)≤57)=false:=Yf;by_cases h3:65≤b
  ·have d3:decide ((65:Int)≤(b:Int))=true:=Ye;by_cases h4:b≤70
   ·have d4:decide ((b:Int)≤70)=true:=Ye;have e:Zzi b=(b:Int)-55:=by unfold Zzi;rw[Zgq (by omega),Zgn ⟨h3,h4⟩]
    rw[e];obtain⟨c,hc⟩:∃ c:Int,(b:Int)-65=c:=⟨_,rfl⟩;have r1:IntKind.u8.wrap ((b:Int)-65)=c:=by rw[Zf7 _ (by omega)];exact hc
    have r2:IntKind.i64.wrap c=c:=Yp _ (by omega);have r3:IntKind.i64.wrap (c+10)=(b:Int)-55:=by rw[Yp _ (by omega)];omega
    clear hc;go_enter func198,ntmps198;go_wp2_with fail;go_ret;exact⟨rfl,rfl⟩
   have d4:decide ((b:Int)≤70)=false:=Yf;have e:Zzi b = -1:=by unfold Zzi;rw[Zgq (by omega),Zgq (by omega)]
   rw[e];go_enter func198,ntmps198;go_wp2_with fail;go_ret;exact⟨rfl,rfl⟩
  have d3:decide ((65:Int)≤(b:Int))=false:=Yf;have e:Zzi b = -1:=by unfold Zzi;rw[Zgq (by omega),Zgq (by omega)]
  rw[e];go_enter func198,ntmps198;go_wp2_with fail;go_ret;exact⟨rfl,rfl⟩
 have d1:decide ((48:Int)≤(b:Int))=false:=Yf;have d3:decide ((65:Int)≤(b:Int))=false:=Yf;have e:Zzi b = -1:=by unfold Zzi;rw[Zgq (by omega),Zgq (by omega)]
 rw[e];go_enter func198,ntmps198;go_wp2_with fail;go_ret;exact⟨rfl,rfl⟩
theorem Zs1(n:Nat)(h:n≤1073741824)(w:World):Calls prog 130 #[.int .i64 (n:Int)] w (Zsw 1073741826 w):=by
 have d0:decide ((0:Int)≤(n:Int))=true:=Ye;by_cases hn:n<10
 ·have d1:decide ((n:Int)<10)=true:=Ye;obtain⟨m,hm⟩:=gnX (n+1);have r1:IntKind.i64.wrap ((n:Int)+1)=(m:Int):=by rw[Yp _ (by omega)];omega
  have s0:(0:Int)≤(n:Int):=by omega
  have s1:(n:Int)≤(m:Int):=by omega
  have s2:(m:Int)≤10:=by omega
  go_enter func130,ntmps130;go_wp2_with fail;go_ret;exact⟨_,rfl,by rw[Zft];omega,Yk _⟩
 have d1:decide ((n:Int)<10)=false:=Yf;have d2:decide ((n:Int)<0)=false:=Yf;go_enter func130,ntmps130;go_wp2_with fail;go_loopw [0,3] (fun v s wr=>∃ (m:Nat) (u:ByteArray),v=.int .i64 (m:Int)∧u.size+m≤n∧s=.string u∧Ext w wr) (fun v _ _=>(intOf v).toNat);case atStart=>exact⟨n,⟨#[]⟩,rfl,by show 0+n≤n;omega,rfl,Yk _⟩
 obtain⟨m,u,rfl,hu,rfl,hx⟩:=hrel;have Hx:=Y8 hx;clear hx;by_cases h0:m=0
 ·subst h0;have hus:¬ 9223372036854775807<0+u.size:=by omega
  have hus2:¬ 9223372036854775807<u.size:=by omega
  go_wp2_with fail;go_ret;exact⟨_,rfl,by rw[Yl];show 0+u.size≤_;omega,Hx.o⟩
 have e1:(!((m:Int)==0))=true:=by simp[h0]
 have e2:((m:Int)!=0)=true:=e1;have e3:((m:Int)==0)=false:=by simp[h0]
 have e4:(m==0)=false:=by simp[h0]
 have e5:¬ (m:Int)=0:=by omega
 have q1:(m:Int).tmod 10=((m%10:Nat):Int):=rfl;have q2:(m:Int).tdiv 10=((m/10:Nat):Int):=rfl;have hmod:m%10<10:=Zca _ (by omega);have hdiv:m/10<m:=Nat.div_lt_self (by omega) (by omega);obtain⟨r,hr⟩:=gnX (m%10);obtain⟨q,hq⟩:=gnX (m/10);rw[hr]at q1 hmod;rw[hq]at q2 hdiv;clear hr hq;obtain⟨p,hp⟩:=gnX (r+1);have r0:decide ((r:Int)<0)=false:=Yf;have r1:IntKind.i64.wrap ((r:Int)+1)=(p:Int):=by rw[Yp _ (by omega)];omega
 have r2:IntKind.i64.wrap (q:Int)=(q:Int):=Yp _ (by omega);have s0:(0:Int)≤(r:Int):=by omega
 have s1:(r:Int)≤(p:Int):=by omega
 have s2:(p:Int)≤10:=by omega
 obtain⟨X,hX⟩:=gnX ((⟨#[48,49,50,51,52,53,54,55,56,57]⟩:ByteArray).extract r p);have hXs:X.size=1:=by rw[← hX,Zft];show min p 10-r=1;omega
 have hus:¬ 9223372036854775807<X.size+u.size:=by omega
 have HXs:=Y8 hXs;clear hXs;go_wp2_with fail;go_roundw;case rel=>exact⟨q,_,rfl,by have:=HXs.o;rw[Yl];omega,rfl,Hx.o⟩
 (simp[intOf];omega)
def Zk8(w:World)(e:Ending)(w':World):Prop:=∃ (z:Int) (b:Bool),e=.returned (.tuple #[.int .i64 z,.bool b])∧Ext w w'
theorem Zy2(s:ByteArray)(m:Int)(hs:s.size≤100000)(w:World):Calls prog 189 #[.string s,.int .i64 m] w (Zk8 w):=by
 obtain⟨n,hn⟩:=gnX (s.size);have Hn:=Y8 hn;rw[hn]at hs;by_cases h0:n<1
 ·have d0:decide ((n:Int)<1)=true:=Ye;go_enter func189,ntmps189;go_wp2_with fail;all_goals
   go_ret2;exact⟨_,_,rfl,Yk _⟩
 have d0:decide ((n:Int)<1)=false:=Yf;have hlt0:0<s.size:=by rw[hn];omega
 obtain⟨b0,hb0⟩:∃ b:Nat,(s[0]'hlt0).toNat=b:=⟨_,rfl⟩;go_enter func189,ntmps189;go_wp2_with fail;all_goals first
 | (go_ret2
    exact⟨_,_,rfl,Yk _⟩)
 | skip
 all_goals
  go_loopw [7,6] (fun o t wr=>∃ (i:Nat) (z:Int),i≤n∧o=.int .i64 (i:Int)∧t=.int .i64 z∧Ext w wr) (fun o _ _=>n-(intOf o).toNat);case atStart=>exact⟨0,0,by omega,rfl,rfl,Yk _⟩
  obtain⟨i,z,hi,rfl,rfl,hx⟩:=hrel;by_cases hlt:i<n
  ·obtain⟨hd_i,i0_i,i1_i⟩:=LTl i n;have hlt':i<s.size:=by rw[Hn.o];exact hlt
   obtain⟨b,hb⟩:∃ b:Nat,(s[i]'hlt').toNat=b:=⟨_,rfl⟩;go_wp2_with fail;all_goals first
   | (go_roundw
      case rel=>exact⟨i+1,_,by omega,by go_num,rfl,hx⟩
      (simp[intOf];omega))
   | (go_ret2
      exact⟨_,_,rfl,hx⟩)
  have hd_i:=GEl i n;go_wp2_with fail;go_ret2;exact⟨_,_,rfl,hx⟩
theorem Ol(s:ByteArray)(hs:s.size≤100000)(w:World):Calls prog 131 #[.string s] w (Zsw 300002 w):=by
 obtain⟨n,hn⟩:=gnX (s.size);have Hn:=Y8 hn;rw[hn]at hs;cases h0:(s.toList==[])
 rotate_left
 ·have h1:s.toList.isEmpty=true:=by simpa using h0
  have h2:s.toList=[]:=by simpa using h0
  go_enter func131,ntmps131;go_wp2_with fail;go_ret;exact⟨_,rfl,by show 2≤300002;omega,Yk _⟩
 have h1:s.toList.isEmpty=false:=by simpa using h0
 have h2:¬ s.toList=[]:=by simpa using h0
 go_enter func131,ntmps131;go_wp2_with fail;go_loopw [4,3] (fun o t wr=>∃ (i:Nat) (u:ByteArray),i≤n∧o=.int .i64 (i:Int)∧t=.string u∧u.size≤3*i∧Ext w wr) (fun o _ _=>n-(intOf o).toNat);case atStart=>exact⟨0,⟨#[]⟩,by omega,rfl,rfl,by show 0≤_;omega,Yk _⟩
 obtain⟨i,u,hi,rfl,rfl,hu,hx⟩:=hrel;by_cases hlt:i<n
 ·obtain⟨hd_i,i0_i,i1_i⟩:=LTl i n;have hlt':i<s.size:=by rw[Hn.o];exact hlt
  obtain⟨b,hb⟩:∃ b:Nat,(s[i]'hlt').toNat=b:=⟨_,rfl⟩;have hb2:b≤255:=by rw[← hb];have:=(s[i]'hlt').toNat_lt;omega
  go_wp2_with fail;refine(Oo b _).mono ?_;rintro e w1 ⟨pl,rfl,hx1⟩;cases pl with
  | true =>
   obtain⟨k,hk⟩:=gnX (i+1);have r1:IntKind.i64.wrap ((i:Int)+1)=(k:Int):=by rw[Yp _ (by omega)];omega
   have s1:(i:Int)≤(k:Int):=by omega
   have s2:(k:Int)≤(s.size:Int):=by rw[Hn.o];omega
   have s3:(k:Int)≤(n:Int):=by omega
   obtain⟨X,hX⟩:=gnX (s.extract i k);have hXs:X.size≤1:=by rw[← hX,Zft];omega
   have hus:¬ 9223372036854775807<u.size+X.size:=by omega
   go_wp2_with fail;go_roundw;case rel=>exact⟨i+1,_,by omega,by rw[hk],rfl,by rw[Yl];omega,hx.trans hx1⟩
   (simp[intOf];omega)
  | false =>
   have q1:(b:Int).tdiv 16=((b/16:Nat):Int):=rfl;have q2:(b:Int).tmod 16=((b%16:Nat):Int):=rfl;have hdv:b/16<16:=by omega
   have hmd:b%16<16:=by omega
   obtain⟨p,hp⟩:=gnX (b/16);obtain⟨q,hq⟩:=gnX (b%16);rw[hp]at q1 hdv;rw[hq]at q2 hmd;clear hp hq;obtain⟨p1,hp1⟩:=gnX (p+1);obtain⟨z1,hz1⟩:=gnX (q+1);have r0:IntKind.u8.wrap (p:Int)=(p:Int):=Zf7 _ (by omega);have r1:IntKind.u8.wrap ((p:Int)+1)=(p1:Int):=by rw[Zf7 _ (by omega)];omega
   have r2:IntKind.u8.wrap ((q:Int)+1)=(z1:Int):=by rw[Zf7 _ (by omega)];omega
   have s0:(0:Int)≤(p:Int):=by omega
   have s1:(p:Int)≤(p1:Int):=by omega
   have s2:(p1:Int)≤16:=by omega
   have s3:(0:Int)≤(q:Int):=by omega
   have s4:(q:Int)≤(z1:Int):=by omega
   have s5:(z1:Int)≤16:=by omega
   obtain⟨X,hX⟩:=gnX ((⟨#[48,49,50,51,52,53,54,55,56,57,65,66,67,68,69,70]⟩:ByteArray).extract p p1);obtain⟨Y,hY⟩:=gnX ((⟨#[48,49,50,51,52,53,54,55,56,57,65,66,67,68,69,70]⟩:ByteArray).extract q z1);have hXs:X.size=1:=by rw[← hX,Zft];show min p1 16-p=1;omega
   have hYs:Y.size=1:=by rw[← hY,Zft];show min z1 16-q=1;omega
   obtain⟨Z,hZ⟩:=gnX ((⟨#[37]⟩:ByteArray)++X);have hZs:Z.size=2:=by rw[← hZ,Yl,hXs];rfl
   obtain⟨V,hV⟩:∃ Z',Z++Y=Z':=⟨_,rfl⟩;have hVs:V.size=3:=by rw[← hV,Yl,hZs,hYs]
   have t0:¬ 9223372036854775807<1+X.size:=by omega
   have t1:¬ 9223372036854775807<Z.size+Y.size:=by omega
   have t2:¬ 9223372036854775807<u.size+V.size:=by omega
   have HXs:=Y8 hXs;have HYs:=Y8 hYs;have HZs:=Y8 hZs;have HVs:=Y8 hVs;clear hXs hYs hZs hVs hp1 hz1;go_wp2_with fail;go_quiet (fail);go_wp2_with fail;go_roundw;case rel=>exact⟨i+1,_,by omega,by go_num,rfl,by have:=HVs.o;rw[Yl];omega,by first|exact hx.trans hx1|exact(hx.trans hx1).drew|exact(hx.trans hx1).drewN _⟩
   (simp[intOf];omega)
 have hd_i:=GEl i n;go_wp2_with fail;go_ret;exact⟨_,rfl,by omega,hx⟩
def Zjv(n:Nat)(w:World)(e:Ending)(w':World):Prop:=∃ (t:ByteArray) (b:Bool),e=.returned (.tuple #[.string t,.bool b])∧t.size≤n∧Ext w w'
theorem Zxe(s:ByteArray)(hs:s.size≤100000)(w:World):Calls prog 190 #[.string s] w (Zjv s.size w):=by
 obtain⟨n,hn⟩:=gnX (s.size);have Hn:=Y8 hn;rw[hn]at hs⊢;cases h0:(s.toList==[34,34])
 rotate_left
 ·have h2:s.toList=[34,34]:=by simpa using h0
  go_enter func190,ntmps190;go_wp2_with fail;go_ret2;exact⟨_,_,rfl,by show 0≤n;omega,Yk _⟩
 have h2:¬ s.toList=[34,34]:=by simpa using h0
 go_enter func190,ntmps190;go_wp2_with fail;go_loopw [5,4] (fun o t wr=>∃ (i:Nat) (u:ByteArray),i≤n∧o=.int .i64 (i:Int)∧t=.string u∧u.size≤i∧Ext w wr) (fun o _ _=>n-(intOf o).toNat);case atStart=>exact⟨0,⟨#[]⟩,by omega,rfl,rfl,by show 0≤0;omega,Yk _⟩
 obtain⟨i,u,hi,rfl,rfl,hu,hx⟩:=hrel;by_cases hlt:i<n
 ·obtain⟨hd_i,i0_i,i1_i⟩:=LTl i n;have hlt':i<s.size:=by rw[Hn.o];exact hlt
  obtain⟨b,hb⟩:∃ b:Nat,(s[i]'hlt').toNat=b:=⟨_,rfl⟩;have hb2:b≤255:=by rw[← hb];have:=(s[i]'hlt').toNat_lt;omega
  go_wp2_with fail;refine(Oo b _).mono ?_;rintro e w1 ⟨pl,rfl,hx1⟩;have Hx:=Y8 (hx.trans hx1);clear hx hx1;cases pl with
  | true =>
   obtain⟨k,hk⟩:=gnX (i+1);have r1:IntKind.i64.wrap ((i:Int)+1)=(k:Int):=by rw[Yp _ (by omega)];omega
   have s1:(i:Int)≤(k:Int):=by omega
   have s2:(k:Int)≤(s.size:Int):=by rw[Hn.o];omega
   have s3:(k:Int)≤(n:Int):=by omega
   obtain⟨X,hX⟩:=gnX (s.extract i k);have hXs:X.size≤1:=by rw[← hX,Zft];omega
   have hus:¬ 9223372036854775807<u.size+X.size:=by omega
   go_wp2_with fail;go_roundw;case rel=>exact⟨i+1,_,by omega,by rw[hk],rfl,by rw[Yl];omega,Hx.o⟩
   (simp[intOf];omega)
  | false =>
   obtain⟨k,hk⟩:=gnX (i+1);obtain⟨k2,hk2⟩:=gnX (i+2);have r1:IntKind.i64.wrap ((i:Int)+1)=(k:Int):=by rw[Yp _ (by omega)];omega
   have r2:IntKind.i64.wrap ((i:Int)+2)=(k2:Int):=by rw[Yp _ (by omega)];omega
   by_cases h37:b=37
   ·have e1:(!((b:Int)==37))=false:=by simp;omega
    have e2:((b:Int)!=37)=false:=e1;have e3:((b:Int)==37)=true:=by simp;omega
    clear h37;by_cases h2:k2<n
    ·have d2:decide ((n:Int)≤(k2:Int))=false:=Yf;have d2n:¬ n≤k2:=by omega
     have i2:(0:Int)≤(k:Int):=by omega
     have i3:(k:Int)<(n:Int):=by omega
     have i4:(0:Int)≤(k2:Int):=by omega
     have i5:(k2:Int)<(n:Int):=by omega
     have hk':k<s.size:=by rw[Hn.o];omega
     have hk2':k2<s.size:=by rw[Hn.o];omega
     obtain⟨b1,hb1⟩:∃ b:Nat,(s[k]'hk').toNat=b:=⟨_,rfl⟩;have hb1b:b1≤255:=by rw[← hb1];have:=(s[k]'hk').toNat_lt;omega
     obtain⟨c1,hc1⟩:∃ b:Nat,(s[k2]'hk2').toNat=b:=⟨_,rfl⟩;have hc1b:c1≤255:=by rw[← hc1];have:=(s[k2]'hk2').toNat_lt;omega
     have B1:=Zrc b1;have B2:=Zrc c1;obtain⟨x1,hx1⟩:=gnX (Zzi b1);obtain⟨x2,hx2⟩:=gnX (Zzi c1);rw[hx1]at B1;rw[hx2]at B2;by_cases hn1:x1<0
     ·have f1:decide (x1<0)=true:=Ye hn1;clear hn1 B1 B2;go_wp2_with (go_at_call 198;refine(Sg _ (by assumption) _).mono ?_;rintro e w' ⟨rfl,rfl⟩);go_ret2;exact⟨_,_,rfl,by show 0≤n;omega,Hx.o⟩
     have f1:decide (x1<0)=false:=Yf hn1;by_cases hn2:x2<0
     ·have f2:decide (x2<0)=true:=Ye hn2;clear hn1 hn2 B1 B2;go_wp2_with (go_at_call 198;refine(Sg _ (by assumption) _).mono ?_;rintro e w' ⟨rfl,rfl⟩);go_ret2;exact⟨_,_,rfl,by show 0≤n;omega,Hx.o⟩
     have f2:decide (x2<0)=false:=Yf hn2;obtain⟨y1,rfl⟩:∃ y:Nat,x1=(y:Int):=⟨x1.toNat,by omega⟩;obtain⟨y2,rfl⟩:∃ y:Nat,x2=(y:Int):=⟨x2.toNat,by omega⟩;obtain⟨m1,hm1⟩:=gnX (16*y1);obtain⟨z,hz⟩:=gnX (m1+y2);have t1:IntKind.i64.wrap (16*(y1:Int))=(m1:Int):=by rw[Yp _ (by omega)];omega
     have t2:IntKind.i64.wrap ((m1:Int)+(y2:Int))=(z:Int):=by rw[Yp _ (by omega)];omega
     have t3:IntKind.u8.wrap (z:Int)=(z:Int):=Zf7 _ (by omega);have hz2:z≤255:=by omega
     have hcv:=fun w=>E6 z hz2 w
     obtain⟨bz,hbz⟩:=gnX (bs (u8L [(z:Int)]));have hbs:bz.size=1:=by rw[← hbz];rfl
     rw[hbz]at hcv;have hcv2:∀ w:World,(convert 224 9 (.slice (some ⟨w.heap.size,0,none⟩) 1 1)).run prog (w.alloc (.cells #[.int .u8 (z:Int)] 5)).drew=.ok (.string bz) (w.alloc (.cells #[.int .u8 (z:Int)] 5)).drew:=fun w=>hcv w.drew
     have hus:¬ 9223372036854775807<u.size+bz.size:=by omega
     have Hbs:=Y8 hbs;clear hbz hn1 hn2 hm1 hz hbs B1 B2;go_wp2_with (go_at_call 198;refine(Sg _ (by assumption) _).mono ?_;rintro e w' ⟨rfl,rfl⟩);go_cut [4] from 52 to 68 (fun o wx=>∃ t:ByteArray,o=.string t∧t.size≤u.size+1∧Ext w1 wx)
     case first =>
      rename_i J1 K1 hJ hM;go_region_with (go_at_call 198;refine(Sg _ (by assumption) _).mono ?_;rintro e w' ⟨rfl,rfl⟩);all_goals
       go_simp;refine hM _ _ (hJ _ _ ?_);(repeat apply Exists.intro)
       exact⟨⟨u++bz,rfl,by have h8:=Hbs.o;have h9:=Yl (a:=u) (b:=bz);omega,by first|exact((Yk _).drew).alloc _|exact((Yk _).drewN _).alloc _⟩,rfl⟩
     obtain⟨t,rfl,ht,hxb⟩:=hcut;have r3:IntKind.i64.wrap ((k2:Int)+1)=((k2+1:Nat):Int):=by rw[Yp _ (by omega)];omega
     go_wp2_with fail;go_roundw;case rel=>exact⟨k2+1,_,by omega,by first|rfl|go_num,rfl,by omega,Hx.o.trans hxb⟩
     (simp[intOf];omega)
    have d2:decide ((n:Int)≤(k2:Int))=true:=Ye;have d2n:n≤k2:=by omega
    go_wp2_with fail;go_ret2;exact⟨_,_,rfl,by show 0≤n;omega,Hx.o⟩
   have e1:(!((b:Int)==37))=true:=by simp;omega
   have e2:((b:Int)!=37)=true:=e1;go_wp2_with fail;go_ret2;exact⟨_,_,rfl,by show 0≤n;omega,Hx.o⟩
 have hd_i:=GEl i n;go_wp2_with fail;all_goals
  go_ret2;exact⟨_,_,rfl,by omega,hx⟩
theorem Zlg(w:World)(t:TypeId)(g:Nat)(hg:w.heap.size=g):Own Vm (w.alloc (.cells #[.string ⟨#[]⟩] 9)) w.heap.size (.slice (some ⟨g,0,none⟩) 1 1) [⟨#[]⟩]:=by
 subst hg;exact⟨rfl,.inr ⟨w.heap.size,1,_,rfl,Ym _,Zg3 w _,Ym _,by unfold maxLen;omega,rfl,rfl⟩⟩
theorem O8(w:World)(s:ByteArray)(t:TypeId)(g:Nat)(hg:w.heap.size=g):RdE Vm (w.alloc (.cells #[.string s] t)) (fun _=>True) (.slice (some ⟨g,0,none⟩) 1 1) [s]:=by
 subst hg;exact Qh w #[.string s] t 1 rfl
theorem Zih{l:List ByteArray}{j:Nat}{x:ByteArray}(h:l[j]?=some x):(Vm.cells l)[j]?=some (.string x):=by
 show(l.map Value.string)[j]?=_;rw[Zn,h];rfl
def Zst(w:World)(e:Ending)(w':World):Prop:=∃ (v:Value) (l:List ByteArray),e=.returned v∧RdE Vm w' (fun k=>w.heap.size≤k) v l∧1≤l.length∧l.length≤4097∧(∀ x∈l,x.size≤4096)∧Ext w w'
theorem Zoc(s:ByteArray)(hs:s.size≤4096)(w:World):Calls prog 188 #[.string s] w (Zst w):=by
 obtain⟨n,hn⟩:=gnX (s.size);have Hn:=Y8 hn;rw[hn]at hs;obtain⟨B,hB⟩:=gnX (w.heap.size);have HB:=Y8 hB;have Ho0:=Y8 (show Own Vm (w.alloc (.cells #[.string ⟨#[]⟩] 9)) B (.slice (some ⟨w.heap.size,0,none⟩) 1 1) [⟨#[]⟩] from by rw[← hB];exact Zlg w 0 _ rfl);clear hB;go_enter func188,ntmps188;go_wp2_with fail;go_loopw [4,3] (fun o u wr=>∃ (i:Nat) (l:List ByteArray),i≤n∧o=.int .i64 (i:Int)∧Own Vm wr B u l∧1≤l.length∧l.length≤i+1∧(∀ x∈l,x.size≤i)∧Ext w wr) (fun o _ _=>n-(intOf o).toNat);case atStart=>exact⟨0,[⟨#[]⟩],by omega,rfl,Ho0.o,by simp,by simp,by intro x hx;rw[Zi.1 hx];exact Ym 0,(Yk w).alloc _⟩
 clear Ho0;obtain⟨i,l,hi,rfl,ho,hl1,hl2,hmem,hx⟩:=hrel;obtain⟨m,hm⟩:=gnX (l.length);obtain⟨g,C2,rfl,hg1,hg2,hg3,hg4⟩:=ho.some_ (by omega);rw[hm]at hl1 hl2 hg3 ho⊢;have Hx:=Y8 hx;have Ho:=Y8 ho;have Hm:=Y8 hm;have Hmem:=Y8 hmem;have hBw:B≤wr.heap.size:=by rw[← HB.o];exact hx.size
 unfold maxLen at hg4;clear hx ho hm hmem;by_cases hlt:i<n
 ·obtain⟨hd_i,i0_i,i1_i⟩:=LTl i n;have hlt':i<s.size:=by rw[Hn.o];exact hlt
  obtain⟨b,hb⟩:∃ b:Nat,(s[i]'hlt').toNat=b:=⟨_,rfl⟩;cases h32:((b:Int)==32)
  rotate_left
  ·have h32n:(b==32)=true:=by simp at h32⊢;omega
   have h32p:b=32:=by simp at h32n;exact h32n
   go_wp2_with (at_builtin;refine Xt Vm _ _ _ rfl rfl rfl rfl (Ho.o.ext ((Yk _).alloc _)) rfl (O8 wr _ _ _ rfl) (by rw[Hm.o];simp;omega) (by show 16≤1000;omega) (by simp;omega) ?_;intro A3 n3 c3 w3 hg);have Hg:=Y8 hg;clear hg;go_wp2_with fail;go_roundw;case rel =>
    refine⟨i+1,l++[⟨#[]⟩],by omega,by go_num,Hg.o.own,by simp,by rw[Zs,Hm.o];simp;omega,?_,Hg.o.ext w (Hx.o.alloc _) (by rw[HB.o];exact Ym _)⟩;intro x hx;rcases Zj.1 hx with h|h
    ·have:=Hmem.o x h;omega
    rw[Zi.1 h];exact Zgf _
   case measure=>(simp[intOf];omega)
  have h32n:(b==32)=false:=by simp at h32⊢;omega
  have h32p:¬ b=32:=by simp at h32n;exact h32n
  have p1:=Ve m (by omega) (by omega);have p3:(0:Int)≤((m-1:Nat):Int):=by omega
  have p4:((m-1:Nat):Int)<(m:Int):=by omega
  have p6:m-1<m:=by omega
  obtain⟨q,hq⟩:=gnX (m-1);rw[hq]at p1 p3 p4 p6;clear hq;obtain⟨y,hy⟩:=geX (l:=l) (i:=q) (by rw[Hm.o];exact p6);have c0:=Ho.o.at_ (Zih hy);have t0:=Ho.o.thaw q;have hyl:y.size≤i:=Hmem.o y (Zy hy);clear hy;obtain⟨k,hk⟩:=gnX (i+1);have r1:IntKind.i64.wrap ((i:Int)+1)=(k:Int):=by rw[Yp _ (by omega)];omega
  have s1:(i:Int)≤(k:Int):=by omega
  have s2:(k:Int)≤(s.size:Int):=by rw[Hn.o];omega
  have s3:(k:Int)≤(n:Int):=by omega
  obtain⟨X,hX⟩:=gnX (s.extract i k);have hXs:X.size≤1:=by rw[← hX,Zft];omega
  have hus:¬ 9223372036854775807<y.size+X.size:=by omega
  go_wp2_with fail;go_region;all_goals
   go_wp2_with fail;go_roundw;case rel =>
    refine⟨i+1,l.set q (y++X),by omega,by rw[hk],?_,by rw[Zf,Hm.o];exact hl1,by rw[Zf,Hm.o];omega,?_,?_⟩
    ·first
     | exact(Ho.o.ext (Yk _).drew).put rfl (by rw[Hm.o];exact p6) _ rfl
     | exact(Ho.o.ext ((Yk _).drewN _)).put rfl (by rw[Hm.o];exact p6) _ rfl
     | exact(Ho.o.put rfl (by rw[Hm.o];exact p6) _ rfl).ext (Yk _).drew
     | exact(Ho.o.put rfl (by rw[Hm.o];exact p6) _ rfl).ext ((Yk _).drewN _)
    ·intro x hx;rcases Zf2 hx with h|h
     ·have:=Hmem.o x h;omega
     rw[h,Yl];omega
    have hx:=Hx.o;have hge:w.heap.size≤g:=by rw[HB.o];exact hg1
    first
    | exact Y0 hx.drew hge _
    | exact Y0 (hx.drewN _) hge _
    | exact(Y0 hx hge _).drew
    | exact(Y0 hx hge _).drewN _
   case measure=>(simp[intOf];omega)
 have hd_i:=GEl i n;go_wp2_with fail;go_ret;refine⟨_,l,rfl,?_,by rw[Hm.o];exact hl1,by rw[Hm.o];omega,fun x hx=>by have:=Hmem.o x hx;omega,Hx.o⟩;rw[HB.o,← Hm.o];have:=Ho.o.rd;rw[← Hm.o]at this;exact this
