/- Lemmas of this claim. Conditions: as named. -/
import Derived.Test.YtnbclgbicnpmnaaGreatA24
namespace Go.Proofs.YtnbclgbicnpmnaaGreat
open Go.RowKit Go.Sort
set_option maxHeartbeats 0
set_option maxRecDepth 100000
set_option linter.all false
theorem Zsp(w:World)(t:TypeId)(g:Nat)(hg:w.heap.size=g):Own Zmo (w.alloc (.cells #[.slice none 0 0] 22)) w.heap.size (.slice (some ⟨g,0,none⟩) 1 1) [⟨none,0,0⟩]:=by
 subst hg;exact⟨rfl,.inr ⟨w.heap.size,1,_,rfl,Yp _,Zl8 w _,Yp _,by unfold maxLen;omega,rfl,rfl⟩⟩
theorem Zm6(w:World)(g:Nat)(hg:w.heap.size=g):RdE Zmo (w.alloc (.cells #[.slice none 0 0] 22)) (fun _=>True) (.slice (some ⟨g,0,none⟩) 1 1) [⟨none,0,0⟩] :=
 Rd.mono (Zsp w 0 g hg).rd fun _ _ _=>trivial
theorem Zu7(w:World)(S:Nat→Prop):Kh w S [⟨none,0,0⟩] [[]]:=⟨rfl,fun j s x h1 h2=>by
 cases j with
 | zero=>simp at h1 h2;subst h1 h2;exact Xz.nil _ _
 | succ j=>simp at h1⟩
theorem Zwr{w:World}{S:Nat→Prop}{vs:List Sl}{ls:List (List Int)}(h:Kh w S vs ls){s:Sl}{x:List Int}(hs:Xz w S s.v x):Kh w S (vs++[s]) (ls++[x]):=by
 refine⟨by simp[h.1],fun j a b h1 h2=>?_⟩;rcases Zju j vs.length with hj|hj
 ·rw[Ze hj]at h1;rw[Ze (by rw[← h.1];exact hj)]at h2;exact h.2 j a b h1 h2
 rw[Zd hj]at h1;rw[Zd (by rw[← h.1];exact hj),← h.1]at h2;rcases hk:j-vs.length with _|k
 ·rw[hk]at h1 h2;simp at h1 h2;subst h1 h2;exact hs
 rw[hk]at h1;simp at h1
theorem Tp{w:World}{S:Nat→Prop}{vs:List Sl}{ls:List (List Int)}(h:Kh w S vs ls){s:Sl}{x:List Int}(hs:Xz w S s.v x)(i:Nat):Kh w S (vs.set i s) (ls.set i x):=by
 refine⟨by simp[h.1],fun j a b h1 h2=>?_⟩;rw[Yx]at h1 h2;by_cases hij:i=j
 ·subst hij;rw[Zlg rfl]at h1 h2;split at h1
  ·rw[Zlg (by rw[← h.1];assumption)]at h2;cases h1;cases h2;exact hs
  cases h1
 rw[Zlk hij]at h1 h2;exact h.2 j a b h1 h2
def Ik(ls:List (List Int))(c:Int):List (List Int):=if c=46 then ls++[[]]else ls.set (ls.length-1) ((ls.getD (ls.length-1) [])++[c])
def Ui(l:List Int):List (List Int):=l.foldl Ik [[]]
theorem Zqt(ls:List (List Int))(c:Int):ls.length≤(Ik ls c).length:=by
 unfold Ik;split<;>simp
theorem Tu(l:List Int):1≤(Ui l).length:=by
 unfold Ui
 suffices ∀ ls:List (List Int),1≤ls.length→1≤(l.foldl Ik ls).length from this _ (by simp)
 induction l with
 | nil=>intro ls h;exact h
 | cons c r ih=>intro ls h;exact ih _ (Zlh h (Zqt ls c))
def Zvf(N:Nat)(w:World)(e:Ending)(w':World):Prop:=∃ (v:Value) (l:List Int),e=.returned v∧RdE Wh w' (fun k=>w.heap.size≤k) v l∧l.length≤N∧Ext w w'
theorem Zqv(v:Value)(ls:List (List Int))(w:World)(h:Zxn w v ls)(hn:ls.length≤4097)(hm:∀ y∈ls,y.length≤4096):Calls Tryz.prog 222 #[v] w (Zvf 20000000 w):=by
 obtain⟨A,C,rfl,hlC,hC⟩:=h.shape;obtain⟨n,hnn⟩:=gnX (ls.length);rw[hnn]at hlC hn⊢;have Hnn:=Ya hnn;have Hh:=Ya h;have Hm:=Ya hm;obtain⟨B,hB⟩:=gnX (w.heap.size);have HB:=Ya hB;clear h hnn hm hB;go_enter Tryz.func222,Tryz.ntmps222;go_wp2_with fail;go_loopw [8,3] (fun o u wr=>∃ (i:Nat) (l:List Int),i≤n∧o=.int .i64 (i:Int)∧Own Wh wr B u l∧l.length≤i*4097∧Ext w wr) (fun o _ _=>n-(intOf o).toNat);case atStart=>exact⟨0,[],by omega,rfl,Own.nil _ _ _,by simp,Yn _⟩
 obtain⟨i,l,hi,rfl,ho,hli,hx⟩:=hrel;obtain⟨A2,C2,rfl,hlC2,hC2⟩:=ho.shape;obtain⟨m,hm⟩:=gnX (l.length);have hoI:Own Wh wr B (.slice A2 m C2) l:=by rw[← hm];exact ho
 rw[hm]at hlC2 hli⊢;have Hx:=Ya hx;have Ho:=Ya hoI;have Hl:=Ya hm;have hBw:B≤wr.heap.size:=by rw[← HB.o];exact hx.size
 unfold maxLen at hC2;clear hx ho hoI hm;by_cases hlt:i<n
 ·obtain⟨hd_i,i0_i,i1_i⟩:=LTl i n (by omega);obtain⟨x,hx⟩:=geX (l:=ls) (i:=i) (by rw[Hnn.o];exact hlt);obtain⟨g,o,c,u,hv,_,_,hg,c0,hxu⟩:=Hh.o.get hx;simp only[Yg]at hv;obtain⟨rfl,-,rfl⟩:=hv;replace c0:=(Hx.o.cell (p:=⟨g,o+i,none⟩) hg).trans c0;have hxl:=Hm.o x (Zy hx);obtain⟨A3,C3,rfl,hl3,hc3⟩:=hxu.shape;obtain⟨k,hk⟩:=gnX (x.length);have Hxu:=Ya (show RdE Wh w (fun _=>True) (.slice A3 k C3) x by rw[← hk];exact hxu);rw[hk]at c0 hl3 hxl;have Hk:=Ya hk;clear hx hxu hk;have hi1:i*4097≤4097*4097:=Zl4 _ (by omega);have hi2:(i+1)*4097=i*4097+4097:=by omega
  have Hi2:=Ya hi2;clear hi2;by_cases hi0:0<i
  ·have d1:decide ((0:Int)<(i:Int))=true:=Yh (by omega);go_wp2_with (first|(at_builtin;refine Xu Wh _ _ _ rfl rfl rfl rfl (Ho.o.ext ((Yn _).alloc _)) rfl (Wr wr 46 _ _ rfl) (by rw[Hl.o];show m+1≤_;omega) (by show 8≤1000;omega) (by simp;omega) ?_;intro A4 n4 c4 w4 hg4;have Hx4:=Ya (hg4.ext w (Hx.o.alloc _) (by rw[HB.o];exact Yp _));have Hl4:=Ya (show n4=m+1 by(rw[hg4.len,Zs,Hl.o];rfl));have HB4:=Ya (show B≤w4.heap.size by rw[← HB.o];exact Hx4.o.size);have Hg4:=Ya hg4;clear hg4)|(at_builtin;refine Xu Wh _ _ _ rfl rfl rfl rfl Hg4.o.own rfl (Hxu.o.ext Hx4.o) (by rw[← Hg4.o.len,Hl4.o,Hk.o];omega) (by show 8≤1000;omega) HB4.o ?_;intro A5 n5 c5 w5 hg5;have Hx5:=Ya (hg5.ext w Hx4.o (by rw[HB.o];exact Yp _));have Hl5:=Ya (show n5=m+1+k by(rw[hg5.len,Zs,← Hg4.o.len,Hl4.o,Hk.o]));have Hg5:=Ya hg5;clear hg5));go_roundw;case rel=>exact⟨i+1,_,by omega,by go_num,Hg5.o.own,by rw[← Hg5.o.len,Hl5.o,Hi2.o];omega,Hx5.o⟩
   (simp[intOf];omega)
  have d1:decide ((0:Int)<(i:Int))=false:=Yi (by omega);go_wp2_with (at_builtin;refine Xu Wh _ _ _ rfl rfl rfl rfl Ho.o rfl (Hxu.o.ext Hx.o) (by rw[Hl.o,Hk.o];omega) (by show 8≤1000;omega) hBw ?_;intro A5 n5 c5 w5 hg5;have Hx5:=Ya (hg5.ext w Hx.o (by rw[HB.o];exact Yp _));have Hl5:=Ya (show n5=m+k by(rw[hg5.len,Zs,Hl.o,Hk.o]));have Hg5:=Ya hg5;clear hg5);go_roundw;case rel=>exact⟨i+1,_,by omega,by go_num,Hg5.o.own,by rw[← Hg5.o.len,Hl5.o,Hi2.o];omega,Hx5.o⟩
  (simp[intOf];omega)
 have hd_i:=GEl i n (by omega);go_wp2_with fail;go_ret;refine⟨_,l,rfl,?_,?_,Hx.o⟩
 ·have:=Ho.o.rd;rw[HB.o];rw[← Hl.o]at this⊢;exact this
 rw[Hl.o];have:i*4097≤4097*4097:=Zl4 _ (by omega);omega
def Ea(w:World)(e:Ending)(w':World):Prop:=∃ x y:Int,e=.returned (.tuple #[.int .i64 x,.int .i64 y])∧Ext w w'
theorem strs_get{w:World}{S:Nat→Prop}{v:Value}{l:List ByteArray}(h:RdE Jw w S v l){j:Nat}{x:ByteArray}(hj:l[j]?=some x) :
 ∃ g o c,v=.slice (some ⟨g,o,none⟩) l.length c∧l.length≤c∧c≤maxLen∧S g∧g<w.heap.size∧w.cell? ⟨g,o+j,none⟩=some (.string x):=by
 obtain⟨g,o,c,h1,h2,h3,h4,h5,h6⟩:=Rd.at_ h (Zr.1 hj).1;exact⟨g,o,c,h1,h2,h3,h4,h5,h6 j _ (by show(l.map Value.string)[j]?=_;rw[Zn,hj];rfl)⟩
theorem Up{S:Nat→Prop}(v:Value)(l:List ByteArray)(w:World)(h:RdE Jw w S v l)(hl:l.length≤5000)(hs:∀ s∈l,s.size≤63):Calls Tryz.prog 206 #[v] w (Ea w):=by
 obtain⟨A,C,rfl,hlC,hC⟩:=h.shape;obtain⟨n,hnn⟩:=gnX (l.length);rw[hnn]at hlC hl⊢;have Hnn:=Ya hnn;have Hh:=Ya h;have Hs:=Ya hs;clear h hnn hs;go_enter Tryz.func206,Tryz.ntmps206;by_cases h0:n=0
 ·subst h0;go_wp2_with fail;go_ret2;exact⟨_,_,rfl,Yn _⟩
 have d0:((n:Int)==0)=false:=by simp;omega
 have d0b:(n==0)=false:=by simp;omega
 clear h0;go_wp2_with fail;go_loopw [15,4] (fun o t wr=>∃ (i:Nat) (z:Int),i≤n∧o=.int .i64 (i:Int)∧t=.int .i64 z∧Ext w wr) (fun o _ _=>n-(intOf o).toNat);case atStart=>exact⟨0,_,by omega,rfl,rfl,Yn _⟩
 obtain⟨i,z,hi,rfl,rfl,hx⟩:=hrel;have Hx:=Ya hx;clear hx;by_cases hlt:i<n
 ·obtain⟨hd_i,i0_i,i1_i⟩:=LTl i n (by omega);obtain⟨x,hx⟩:=geX (l:=l) (i:=i) (by rw[Hnn.o];exact hlt);obtain⟨g,o,c,hv,_,_,_,hg,c0⟩:=strs_get (Hh.o.ext Hx.o) hx;simp only[Yg]at hv;obtain⟨rfl,-,rfl⟩:=hv;have hxs:=Hs.o x (Zy hx);have d63:decide ((63:Int)<(x.size:Int))=false:=Yi (by omega);have d63b:decide (63<x.size)=false:=Yi (by omega);clear hx;go_wp2_with fail;all_goals
   first
   | (go_roundw
      case rel=>exact⟨i+1,_,by omega,by go_num,rfl,Hx.o⟩
      (simp[intOf];omega))
   | (go_ret2;exact⟨_,_,rfl,Hx.o⟩)
 have hd_i:=GEl i n (by omega);go_wp2_with fail;all_goals
  go_ret2;exact⟨_,_,rfl,Hx.o⟩
def Zrl(N:Nat)(w:World)(e:Ending)(w':World):Prop:=∃ (s:ByteArray) (y:Int),e=.returned (.tuple #[.string s,.int .i64 y])∧s.size≤N∧Ext w w'
theorem Zwm{S:Nat→Prop}(v:Value)(l:List ByteArray)(w:World)(h:RdE Jw w S v l)(hl:l.length≤5000)(hs:∀ s∈l,s.size≤63):Calls Tryz.prog 207 #[v] w (Zrl 400000 w):=by
 obtain⟨A,C,rfl,hlC,hC⟩:=h.shape;obtain⟨n,hnn⟩:=gnX (l.length);have hI:RdE Jw w S (.slice A n C) l:=by rw[← hnn];exact h
 rw[hnn]at hlC hl⊢;have Hnn:=Ya hnn;have Hh:=Ya hI;have Hs:=Ya hs;clear h hnn hs hI;go_enter Tryz.func207,Tryz.ntmps207;go_wp2_with fail;refine(Up _ l _ Hh.o (by rw[Hnn.o];exact hl) Hs.o).mono ?_;rintro e w1 ⟨x,y,rfl,hx1⟩;have Hx1:=Ya hx1;clear hx1;by_cases hy:y=0
 ·subst hy;go_wp2_with fail;go_loopw [19,6] (fun o t wr=>∃ (i:Nat) (u:ByteArray),i≤n∧o=.int .i64 (i:Int)∧t=.string u∧u.size≤i*64∧Ext w wr) (fun o _ _=>n-(intOf o).toNat);case atStart=>exact⟨0,⟨#[]⟩,by omega,rfl,rfl,by show 0≤_;omega,Hx1.o⟩
  obtain⟨i,u,hi,rfl,rfl,hu,hx⟩:=hrel;have Hx:=Ya hx;clear hx Hx1;by_cases hlt:i<n
  ·obtain⟨hd_i,i0_i,i1_i⟩:=LTl i n (by omega);obtain⟨x,hx⟩:=geX (l:=l) (i:=i) (by rw[Hnn.o];exact hlt);obtain⟨g,o,c,hv,_,_,_,hg,c0⟩:=strs_get (Hh.o.ext Hx.o) hx;simp only[Yg]at hv;obtain⟨rfl,-,rfl⟩:=hv;have hxs:=Hs.o x (Zy hx);have hus:¬ 9223372036854775807<u.size+x.size:=by omega
   have hus1:¬ 9223372036854775807<u.size+1:=by omega
   have hus2:¬ 9223372036854775807<u.size+1+x.size:=by omega
   clear hx;go_wp2_with fail;all_goals
    go_roundw;case rel=>exact⟨i+1,_,by omega,by go_num,rfl,by first|(rw[Yo,Yo];show u.size+1+x.size≤_;omega)|(rw[Yo];omega),Hx.o⟩
    (simp[intOf];omega)
  have hd_i:=GEl i n (by omega);go_wp2_with fail;go_ret2;exact⟨_,_,rfl,by omega,Hx.o⟩
 have d2:(!(y==0))=true:=by simp[hy]
 have d3:(y !=0)=true:=d2;clear hy;go_wp2_with fail;go_ret2;exact⟨_,_,rfl,by show 0≤_;omega,Hx1.o⟩
theorem Zu6{S S':Nat→Prop}(T:Tbl)(hf:Few T)(hu:Uq T)(v:Value)(l:List Int)(w:World)(h:Xi w S T)(hl:Xz w S' v l):Calls Tryz.prog 201 #[Vr T,v] w (Ea w):=by
 obtain⟨A,C,rfl,hlCC,hCC⟩:=hl.shape;obtain⟨n,hnn⟩:=gnX ((l).length);have Hnn:=Ya hnn;have Hhl:=Ya hl;unfold maxLen at hCC;rw[hnn]at hlCC⊢;clear hl hnn;have X0:=Ya ((Yn w).alloc (Wx T));have H:=Ya (h.up X0.o);have Hb0:=Ya (Xn w T);clear h;have HL:=Ya (show Xz (w.alloc (Wx T)) S' (.slice A n C) l by have:=Hhl.o.ext X0.o;rwa [Hnn.o]at this);have Hf:=Ya hf;have Hu:=Ya hu;clear hf hu;go_enter Tryz.func201,Tryz.ntmps201;go_wp2_with (first|(refine Xx rfl ?_)|(refine Y4 Hb0.o rfl ?_));refine(Vg T Hf.o Hu.o _ l _ H.o HL.o).mono ?_;rintro e w1 ⟨x,rfl,_,hx1⟩;have Hx1:=Ya hx1;clear hx1;by_cases h0:x=0
 ·subst h0;go_wp2_with fail;go_loopw [21,7,8] (fun o u k wr=>∃ (i:Nat) (q r:Bool),i≤n∧o=.int .i64 (i:Int)∧u=.bool q∧k=.bool r∧Ext (w.alloc (Wx T)) wr) (fun o _ _ _=>n-(intOf o).toNat);case atStart=>exact⟨0,true,true,by omega,rfl,rfl,rfl,Hx1.o⟩
  clear Hx1;obtain⟨i,q,r,hi,rfl,rfl,rfl,hx⟩:=hrel;have Hx:=Ya hx;clear hx;by_cases hlt:i<n
  ·obtain⟨hd_i,i0_i,i1_i⟩:=LTl i n (by omega);obtain⟨c,hs_c⟩:=geX (l:=(l)) (i:=i) (by have:=Hnn.o;omega);obtain⟨g_c,o_c,c_c,hvv,_,_,_,hgl_c,a0_c⟩:=(HL.o.ext Hx.o).get hs_c;simp only[Yg]at hvv;obtain⟨rfl,-,rfl⟩:=hvv;have Hs_c:=Ya hs_c;clear hs_c;cases q<;>cases r
   ·go_wp2_with fail;go_roundw;case rel=>exact⟨i+1,_,_,by omega,by go_num,rfl,rfl,Hx.o⟩
    (simp[intOf];omega)
   ·go_wp2_with (refine Wn (Hb0.o.ext Hx.o) (by go_simp) rfl ?_);refine(El T Hf.o _ _ (H.o.up Hx.o)).mono ?_;rintro e w2 ⟨z,rfl,hx2⟩;go_wp2_with fail;go_roundw;case rel=>exact⟨i+1,_,_,by omega,by go_num,rfl,rfl,Hx.o.trans hx2⟩
    (simp[intOf];omega)
   ·go_wp2_with fail;go_roundw;case rel=>exact⟨i+1,_,_,by omega,by go_num,rfl,rfl,Hx.o⟩
    (simp[intOf];omega)
   go_wp2_with (refine Wn (Hb0.o.ext Hx.o) (by go_simp) rfl ?_);refine(El T Hf.o _ _ (H.o.up Hx.o)).mono ?_;rintro e w2 ⟨z,rfl,hx2⟩;go_wp2_with fail;go_roundw;case rel=>exact⟨i+1,_,_,by omega,by go_num,rfl,rfl,Hx.o.trans hx2⟩
   (simp[intOf];omega)
  have hd_i:=GEl i n (by omega);cases q
  rotate_left
  ·go_wp2_with fail;go_ret2;exact⟨_,_,rfl,X0.o.trans Hx.o⟩
  go_wp2_with (refine Y4 (Hb0.o.ext Hx.o) rfl ?_);refine(Zw1 T Hf.o Hu.o _ l _ (H.o.up Hx.o) (HL.o.ext Hx.o)).mono ?_;rintro e w2 ⟨b,rfl,hx2⟩;have Hx2:=Ya (Hx.o.trans hx2);clear hx2 Hx hlt hd_i hi;cases b
  rotate_left
  ·go_wp2_with fail;go_ret2;exact⟨_,_,rfl,X0.o.trans Hx2.o⟩
  go_wp2_with fail;go_loopw [11] (fun o wr=>∃ k:Nat,61≤k∧k≤64∧o=.int .i64 (k:Int)∧Ext (w.alloc (Wx T)) wr) (fun o _=>64-(intOf o).toNat);case atStart=>exact⟨61,by omega,by omega,rfl,Hx2.o⟩
  clear Hx2;obtain⟨k,hk1,hk2,rfl,hx⟩:=hrel;have Hx:=Ya hx;clear hx;by_cases hlt:k≤63
  ·have hd:decide ((k:Int)≤63)=true:=Yh (by omega);go_wp2_with (refine Y4 (Hb0.o.ext Hx.o) rfl ?_);refine(F7 T Hf.o Hu.o _ l _ _ (H.o.up Hx.o) (HL.o.ext Hx.o)).mono ?_;rintro e w3 ⟨b,rfl,hx3⟩;cases b
   ·go_wp2_with fail;go_roundw;case rel=>exact⟨k+1,by omega,by omega,by go_num,Hx.o.trans hx3⟩
    (simp[intOf];omega)
   go_wp2_with fail;go_ret2;exact⟨_,_,rfl,X0.o.trans (Hx.o.trans hx3)⟩
  have hd:decide ((k:Int)≤63)=false:=Yi (by omega);go_wp2_with fail;have Hx2:=Ya Hx.o;clear Hx hlt hd;go_loopw [12] (fun o wr=>∃ k:Nat,3≤k∧k≤61∧o=.int .i64 (k:Int)∧Ext (w.alloc (Wx T)) wr) (fun o _=>61-(intOf o).toNat);case atStart=>exact⟨3,by omega,by omega,rfl,Hx2.o⟩
  clear Hx2;obtain⟨k,hk1,hk2,rfl,hx⟩:=hrel;have Hx:=Ya hx;clear hx;by_cases hlt:k≤60
  ·have hd:decide ((k:Int)≤60)=true:=Yh (by omega);rcases(show k=3∨k=4∨k=5∨6≤k by omega)with rfl|rfl|rfl|h6
   ·go_wp2_with fail;go_roundw;case rel=>exact⟨4,by omega,by omega,rfl,Hx.o⟩
    (simp[intOf])
   ·go_wp2_with fail;go_roundw;case rel=>exact⟨5,by omega,by omega,rfl,Hx.o⟩
    (simp[intOf])
   ·go_wp2_with fail;go_roundw;case rel=>exact⟨6,by omega,by omega,rfl,Hx.o⟩
    (simp[intOf])
   have c1:¬ (k:Int)=4:=by omega
   have c2:¬ (k:Int)=5:=by omega
   have c3:¬ (k:Int)=3:=by omega
   have c4:((k:Int)!=4)=true:=by simp;omega
   have c5:((k:Int)!=5)=true:=by simp;omega
   have c6:((k:Int)!=3)=true:=by simp;omega
   go_wp2_with (refine Wn (Hb0.o.ext Hx.o) (by go_simp) rfl ?_);refine(F7 T Hf.o Hu.o _ l _ _ (H.o.up Hx.o) (HL.o.ext Hx.o)).mono ?_;rintro e w3 ⟨b,rfl,hx3⟩;cases b
   ·go_wp2_with fail;go_roundw;case rel=>exact⟨k+1,by omega,by omega,by go_num,Hx.o.trans hx3⟩
    (simp[intOf];omega)
   go_wp2_with fail;go_ret2;exact⟨_,_,rfl,X0.o.trans (Hx.o.trans hx3)⟩
  have hd:decide ((k:Int)≤60)=false:=Yi (by omega);cases r
  all_goals
   go_wp2_with fail;go_ret2;exact⟨_,_,rfl,X0.o.trans Hx.o⟩
 have h0b:(!(x==0))=true:=by simp[h0]
 have h0c:(x !=0)=true:=h0b;have h0d:(x==0)=false:=by simp[h0]
 have h0H:=Ya h0;clear h0;go_wp2_with fail;go_ret2;exact⟨_,_,rfl,X0.o.trans Hx1.o⟩
def Zxo(l:List Int)(w:World)(e:Ending)(w':World):Prop:=∃ v vs,e=.returned v∧Nw w' w.heap.size v vs (Ui l)∧Ext w w'
theorem Zwz(l:List Int)(c:Int):Ui (l++[c])=Ik (Ui l) c:=by unfold Ui;rw[Zji];rfl
theorem Tw(l:List Int):(Ui l).length≤l.length+1:=by
 unfold Ui
 suffices ∀ ls:List (List Int),(l.foldl Ik ls).length≤ls.length+l.length from by have:=this [[]];simp at this⊢;omega
 induction l with
 | nil=>intro ls;simp
 | cons c r ih =>
  intro ls;have h1:(Ik ls c).length≤ls.length+1:=by unfold Ik;split<;>simp
  have:=ih (Ik ls c);simp only[List.foldl_cons,Zl]at this⊢;omega
theorem Zqs{N:Nat}{ls:List (List Int)}(h:∀ y∈ls,y.length≤N)(c:Int):∀ y∈Ik ls c,y.length≤N+1:=by
 intro y hy;unfold Ik at hy;split at hy
 ·rcases Zj.1 hy with h1|h1
  ·have:=h y h1;omega
  rw[Zi.1 h1];simp
 rcases Zkm hy with h1|h1
 ·have:=h y h1;omega
 rw[h1,Zs,Zkn];cases hq:ls[ls.length-1]? with
 | none=>simp
 | some z=>have:=h z (Zy hq);simp;omega
theorem Tv(l:List Int):∀ y∈Ui l,y.length≤l.length:=by
 suffices ∀ (N:Nat) (ls:List (List Int)),(∀ y∈ls,y.length≤N)→∀ y∈l.foldl Ik ls,y.length≤N+l.length from by
  intro y hy;have:=this 0 [[]] (by simp) y hy;omega
 induction l with
 | nil=>intro N ls h y hy;exact h y hy
 | cons c r ih =>
  intro N ls h y hy;have:=ih (N+1) (Ik ls c) (Zqs h c) y hy;simp;omega
theorem Zx9{S:Nat→Prop}(v:Value)(l:List Int)(w:World)(h:Xz w S v l)(hll:l.length≤4096):Calls Tryz.prog 211 #[v] w (Zxo l w):=by
 obtain⟨A,C,rfl,hlCC,hCC⟩:=h.shape;obtain⟨n,hnn⟩:=gnX ((l).length);have Hnn:=Ya hnn;have Hh:=Ya h;unfold maxLen at hCC;rw[hnn]at hlCC⊢;clear h hnn;rw[Hnn.o]at hll;obtain⟨B,hB⟩:=gnX (w.heap.size);have HB:=Ya hB;have Ho0:=Ya (show Nw (w.alloc (.cells #[.slice none 0 0] 22)) B (.slice (some ⟨w.heap.size,0,none⟩) 1 1) [⟨none,0,0⟩] [[]] from⟨by rw[← hB];exact Zsp w 0 _ rfl,Zu7 _ _⟩);clear hB;go_enter Tryz.func211,Tryz.ntmps211;go_wp2_with fail;go_loopw [10,3] (fun o u wr=>∃ (i:Nat) (vs:List Sl),i≤n∧o=.int .i64 (i:Int)∧Nw wr B u vs (Ui (l.take i))∧Ext w wr) (fun o _ _=>n-(intOf o).toNat);case atStart=>exact⟨0,_,by omega,rfl,Ho0.o,(Yn w).alloc _⟩
 clear Ho0;obtain⟨i,vs,hi,rfl,ho,hx⟩:=hrel;obtain⟨ls,hls⟩:=gnX (Ui (l.take i));rw[hls]at ho;have hl1:1≤ls.length:=by rw[← hls];exact Tu _
 have hmem:∀ y∈ls,y.length≤4096:=by rw[← hls];intro y hy;exact Zlh (Tv _ y hy) (by rw[Zp];omega)
 have Hmem:=Ya hmem;clear hmem;have hl2:ls.length≤4097:=by rw[← hls];exact Zlh (Tw _) (by rw[Zp];omega)
 obtain⟨m,hm⟩:=gnX (ls.length);have hvm:vs.length=m:=by rw[ho.2.1,hm]
 rw[hm]at hl1 hl2;obtain⟨g,C2,rfl,hg1,hg2,hg3,hg4⟩:=ho.1.some_ (by omega);rw[hvm]at hg3 ho⊢;have Hx:=Ya hx;have Ho:=Ya ho;have Hls:=Ya hls;have Hm:=Ya hm;have Hvm:=Ya hvm;have hBw:B≤wr.heap.size:=by rw[← HB.o];exact hx.size
 unfold maxLen at hg4;clear hx ho hls hm hvm;by_cases hlt:i<n
 ·obtain⟨hd_i,i0_i,i1_i⟩:=LTl i n (by omega);obtain⟨x,hs_x⟩:=geX (l:=(l)) (i:=i) (by have:=Hnn.o;omega);obtain⟨g_x,o_x,c_x,hvv,_,_,_,hgl_x,a0_x⟩:=(Hh.o.ext Hx.o).get hs_x;simp only[Yg]at hvv;obtain⟨rfl,-,rfl⟩:=hvv;have Hs_x:=Ya hs_x;clear hs_x;have Hnew:=Ya (show Ui (l.take (i+1))=Ik ls x by rw[Za,Hs_x.o];show Ui (l.take i++[x])=_;rw[Zwz,Hls.o]);by_cases h46:x=46
  ·subst h46;go_wp2_with (at_builtin;refine Xu Zmo _ _ _ rfl rfl rfl rfl (Ho.o.1.ext ((Yn _).alloc _)) rfl (Zm6 wr _ rfl) (by rw[Hvm.o];simp;omega) (by show 24≤1000;omega) (by simp;omega) ?_;intro A3 n3 c3 w3 hg);have Hg:=Ya hg;clear hg;go_wp2_with fail;go_roundw;case rel =>
    refine⟨i+1,vs++[⟨none,0,0⟩],by omega,by go_num,?_,Hg.o.ext w (Hx.o.alloc _) (by rw[HB.o];exact Yp _)⟩;rw[Hnew.o,show Ik ls 46=ls++[[]] from Zlg rfl];refine⟨Hg.o.own,Zwr ?_ (Xz.nil _ _)⟩;have h1:Kh (wr.alloc (.cells #[.slice none 0 0] 22)) (fun k=>(Value.slice (some ⟨g,0,none⟩) m C2).ownBlock≠some k∧k<wr.heap.size) vs ls:=(Ho.o.2.mono fun k hk hl=>⟨hk,hl⟩).ext ((Yn _).alloc _)
    refine(h1.chg Hg.o.chg fun k hk=>hk.1).mono fun k hk _=>?_
    rcases Hg.o.at_ with h|h
    ·rw[h];exact hk.1
    rw[h];simp;have:=hk.2;omega
   (simp[intOf];omega)
  have h46b:(x==46)=false:=by simp[h46]
  have Hne:=Ya h46;clear h46;have p1:=Vu m (by omega) (by omega);have p3:(0:Int)≤((m-1:Nat):Int):=by omega
  have p4:((m-1:Nat):Int)<(m:Int):=by omega
  have p6:m-1<m:=by omega
  obtain⟨q,hq⟩:=gnX (m-1);rw[hq]at p1 p3 p4 p6;have Hq:=Ya hq;clear hq;obtain⟨s,hs⟩:=geX (l:=vs) (i:=q) (by rw[Hvm.o];exact p6);obtain⟨y,hy⟩:=geX (l:=ls) (i:=q) (by rw[Hm.o];exact p6);have hsy:=Ho.o.2.2 q s y hs hy;have c0:=Ho.o.1.at_ (Ah hs);obtain⟨sa,sn,sc⟩:=s;have hsn:sn=y.length:=by
   obtain⟨_,_,e,_⟩:=hsy.shape;simp only[Sl.v,Yg]at e;exact e.2.1
  subst hsn;simp only[Sl.v]at c0 hsy;have Hsy:=Ya hsy;have Hys:=Ya hy;have Hss:=Ya hs;clear hs hy hsy;have hyl:y.length≤4096:=Hmem.o y (Zy Hys.o);obtain⟨yn,hyn⟩:=gnX (y.length);have Hyn:=Ya hyn;rw[hyn]at c0 hyl;clear hyn;go_wp2_with (first|(at_builtin;refine Xu Wh _ _ _ rfl rfl rfl rfl (Own.nil Wh _ B) rfl (show RdE Wh wr _ (.slice sa yn sc) y from(by have:=Hsy.o;rwa [Hyn.o]at this)) (by rw[Hyn.o];simp;omega) (by show 8≤1000;omega) hBw ?_;intro A4 n4 c4 w4 hg4;have Ha4:=Ya (show ∀ k,k<wr.heap.size→¬ (Value.slice A4 n4 c4).ownBlock=some k by intro k hk he;rcases hg4.at_ with h|h<;>rw[he]at h;cases h;(simp at h;omega));have Ho4:=Ya (Own.chg Ho.o.1 hg4.chg (fun k _ h=>by cases h));have Hl4:=Ya (Kh.chg (Ho.o.2.mono fun k hk hl=>(⟨hk,hl⟩:_∧k<wr.heap.size)) hg4.chg (fun k _ h=>by cases h));have Hx4:=Ya (hg4.ext w Hx.o (by rw[HB.o];exact Yp _));have Hg4:=Ya hg4;have hs4:=hg4.chg.size;clear hg4)|(at_builtin;refine Xu Wh _ _ _ rfl rfl rfl rfl (Hg4.o.own.ext ((Yn _).alloc _)) rfl (Wr w4 x _ _ rfl) (by rw[Zs,Hyn.o];simp;omega) (by show 8≤1000;omega) (by simp;omega) ?_;intro A5 n5 c5 w5 hg5;have ho5:=Own.chg (Ho4.o.ext ((Yn _).alloc _)) hg5.chg (fun k hk=>Ha4.o k (by simp[Value.ownBlock]at hk;omega));have Hl5:=Ya (Kh.chg (Hl4.o.ext ((Yn _).alloc _)) hg5.chg (fun k hk=>Ha4.o k hk.2));have hc5:=ho5.at_ (Ah Hss.o);simp only[Sl.v]at hc5;rw[Hyn.o]at hc5;have htw5:=ho5.thaw q;have hgb5:=ho5.blk.2;have Ho5:=Ya ho5;have Hx5:=Ya (hg5.ext w (Hx4.o.alloc _) (by rw[HB.o];exact Yp _));have Hg5:=Ya hg5;clear hg5 ho5));go_roundw;case rel =>
   refine⟨i+1,vs.set q ⟨A5,n5,c5⟩,by omega,by go_num,?_,Yc Hx5.o (by show w.heap.size≤g;rw[HB.o];exact hg1) _⟩;have hy2:(ls.getD (ls.length-1) [])=y:=by rw[Hm.o,Hq.o,Zkn,Hys.o];rfl
   rw[Hnew.o,show Ik ls x=ls.set (ls.length-1) ((ls.getD (ls.length-1) [])++[x]) from Zlk Hne.o,hy2,Hm.o,Hq.o];refine⟨Ho5.o.put rfl (by rw[Hvm.o];exact p6) ⟨A5,n5,c5⟩ rfl,Tp ?_ ?_ q⟩
   ·exact(Hl5.o.chg ((Chg.refl (· = g) w5).setCell (p:=⟨g,q,none⟩) (.inl rfl) _) fun k hk e=>hk.1 (by rw[e];rfl)).mono fun k hk _=>hk.1
   have h1:Xz w5 (fun k=>(Value.slice (some ⟨g,0,none⟩) m C2).ownBlock≠some k) (.slice A5 n5 c5) (y++[x]):=by
    have h2:=Hg5.o.own;rw[Zo]at h2;have e5:n5=(y++[x]).length:=by have:=Hg5.o.len;rwa [Zo]at this
    rw[e5]at h2⊢;refine Rd.of_own h2 fun k hk=>?_
    rw[← e5]at hk;intro e;have hkg:g=k:=by simpa[Value.ownBlock]using e
    subst hkg;rcases Hg5.o.at_ with h|h
    ·exact Ha4.o g hg2 (h.symm.trans hk)
    have h':(Value.slice A5 n5 c5).ownBlock=some g:=hk;rw[h']at h;simp at h;omega
   exact h1.chg ((Chg.refl (· = g) w5).setCell (p:=⟨g,q,none⟩) (.inl rfl) _) fun k hk e=>hk (by rw[e];rfl)
  (simp[intOf];omega)
 have hd_i:=GEl i n (by omega);obtain rfl:i=n:=by omega
 go_wp2_with fail;go_ret;refine⟨_,vs,rfl,?_,Hx.o⟩;rw[HB.o];have:=Ho.o;rw[← Hls.o,Zm (by rw[Hnn.o];omega)]at this;exact this
end Go.Proofs.YtnbclgbicnpmnaaGreat
