/- Lemmas of this claim. Conditions: as named. -/
import Derived.Test.YtnbclgbicnpmnaaGreatA16
namespace Go.Proofs.YtnbclgbicnpmnaaGreat
open Go.RowKit Go.Sort
set_option maxHeartbeats 0
set_option maxRecDepth 100000
set_option linter.all false
theorem Oi{S:Nat→Prop}(v:Value)(os:List Opn)(w:World)(ho:Vk w S v os)(hn:os.length≤610000000000):Calls Tryz.prog 54 #[v] w (Zyz os w):=by
 obtain⟨A,C,rfl⟩:=ho.shape;obtain⟨n,hnn⟩:=gnX (os.length);have Hnn:=Ya hnn;have Ho:=Ya ho;rw[hnn]at hn⊢;obtain⟨B,hB⟩:=gnX (w.heap.size);have HB:=Ya hB;clear hnn ho hB;go_enter Tryz.func54,Tryz.ntmps54;go_wp2_with fail;go_loopw [10,3] (fun o u wr=>∃ (i:Nat) (out:List Nat),i≤n∧o=.int .i64 (i:Int)∧Own Gl wr B u out∧out.length≤i∧Bg os i out∧Ext w wr) (fun o _ _=>n-(intOf o).toNat);case atStart=>exact⟨0,[],by omega,rfl,Own.nil _ _ _,by simp,⟨List.Pairwise.nil,fun j=>by simp⟩,Yn _⟩
 obtain⟨i,out,hi,rfl,hown,hol,hpre,hx⟩:=hrel;obtain⟨Ao,Co,rfl,hlC,hCm⟩:=hown.shape;obtain⟨m,hm⟩:=gnX (out.length);rw[hm]at hown hol hlC⊢;have Hm:=Ya hm;have Hown:=Ya hown;have Hpre:=Ya hpre;have Hx:=Ya hx;have hBw:B≤wr.heap.size:=by rw[← HB.o];exact hx.size
 unfold maxLen at hCm;clear hm hown hpre hx;by_cases hin:i<n
 ·obtain⟨hd_i,i0_i,i1_i⟩:=LTl i n (by omega);obtain⟨o,hoi⟩:=geX (l:=os) (i:=i) (by rw[Hnn.o];exact hin);obtain⟨g,p,c,hv,hc1,hc2,_,hA,hN⟩:=(Ho.o.ext Hx.o).get hoi;rw[Hnn.o]at hv;simp only[Yg]at hv;obtain⟨rfl,-,rfl⟩:=hv;unfold maxLen at hc2;have HA:=Ya hA;obtain⟨nA,nC,hnv⟩:=hN.shape;have hone:o.nv.oneCell'=true:=by rw[hnv];rfl
  have hNd:=(K9 wr o).dec;have hXa:=(Yn wr).alloc (opO o);have Hdo:=Ya (show Kq os i=o.dec from J5 hoi);clear hN hnv hA;by_cases hdec:o.dec = -1
  ·have hdq:(o.dec == -1)=true:=by simp[hdec]
   have Hd:=Ya (show Rh os i=false by simp[Rh,J5 hoi,hdec]);have Hoi:=Ya hoi;clear hoi hdec;go_wp2_with (first|(refine Xl HA.o rfl ?_)|(refine Wo rfl rfl rfl hone ?_));go_roundw;case rel=>exact⟨i+1,out,by omega,by go_num,by rw[← Hm.o];have:=Hown.o;rw[← Hm.o]at this;exact this.ext hXa,by rw[Hm.o];omega,Hpre.o.skip Hd.o,Hx.o.alloc _⟩
   (simp[intOf];omega)
  have hdq:(o.dec == -1)=false:=by simp[hdec]
  have Hd:=Ya (show Rh os i=true by simp[Rh,J5 hoi,hdec]);have Hoi:=Ya hoi;clear hoi hdec;go_wp2_with (first|(refine Xl HA.o rfl ?_)|(refine Wo rfl rfl rfl hone ?_));obtain⟨bo,hbo⟩:=gnX (wr.heap.size);obtain⟨W1,hW1⟩:=gnX (wr.alloc (opO o));have hlt1:bo<W1.heap.size:=by rw[← hW1,← hbo];simp
  rw[hW1,hbo]at hNd;rw[hW1]at hXa;rw[hW1,hbo];have HXa:=Ya hXa;clear hXa;go_loopw [6] (fun o2 wx=>∃ k:Nat,k≤m∧o2=.int .i64 (k:Int)∧(∀ q j,k≤q→out[q]?=some j→o.dec<Kq os j)∧Ext W1 wx) (fun o2 _=>(intOf o2).toNat);case atStart=>exact⟨m,by omega,rfl,fun q j h1 h2=>by have:=(Zr.1 h2).1;rw[Hm.o]at this;omega,Yn _⟩
  rename World=>wx
  obtain⟨k,hk,rfl,hhi,hxk⟩:=hrel;have Hhi:=Ya hhi;have Xk:=Ya hxk;have hdx:=(hxk.cell (p:=⟨bo,0+13,none⟩) hlt1).trans hNd;clear hhi hxk;rw[Zl0]at hdx;have md:=lat hdx;by_cases hk0:0<k
  ·have e1:decide ((0:Int)<(k:Int))=true:=Yh (by omega);have e1n:decide (0<k)=true:=Yh hk0;obtain⟨k1,hk1⟩:=gnX (k-1);have r1:IntKind.i64.wrap ((k:Int)-1)=(k1:Int):=by rw[Yr _ (by omega)];omega
   have i1:(0:Int)≤(k1:Int):=by omega
   have i2:(k1:Int)<(m:Int):=by omega
   have i3:k1<m:=by omega
   obtain⟨j,hj⟩:=geX (l:=out) (i:=k1) (by rw[Hm.o];exact i3);have hX1:Ext wr wx:=HXa.o.trans Xk.o;obtain⟨go,Co',hvo,hbo',hgo,_,_⟩:=(Hown.o.ext hX1).some_ (by rw[Hm.o];omega);rw[Hm.o]at hvo;simp only[Yg,Zl2]at hvo;obtain⟨rfl,rfl⟩:=hvo;have cj:wx.cell? ⟨go,k1,none⟩=some (.int .i64 (j:Int)):=(Hown.o.ext hX1).at_ (Zns hj);have mj:=lat cj;have hjm:=(Hpre.o.mem j).1 (Zy hj);obtain⟨oj,hoj⟩:=geX (l:=os) (i:=j) (by rw[Hnn.o];omega);obtain⟨g2,p2,c2,hv2,_,_,_,hA2,_⟩:=(Ho.o.ext (Hx.o.trans hX1)).get hoj;rw[Hnn.o]at hv2;simp only[Yg,Yf,Zld,Zl2,Zks]at hv2;obtain⟨⟨rfl,rfl⟩,rfl⟩:=hv2;have cd:=hA2.dec;have m3:=lat cd;have j1:(0:Int)≤(j:Int):=by omega
   have j2:(j:Int)<(n:Int):=by omega
   have j3:j<n:=by omega
   have Hdj:=Ya (show Kq os j=oj.dec from J5 hoj);have Hj:=Ya hj;clear hj hoj hA2 cj cd hdx hjm;cases hcmp:decide (o.dec<oj.dec)
   ·have hge:¬ o.dec<oj.dec:=by simpa using hcmp
    have Hge:=Ya (show oj.dec≤o.dec by omega);clear hge;go_upto_region 7 with fail;have hun:=Yd;refine Y0 (by kernel_rfl) (by kernel_rfl) ?_;repeat((with_reducible refine Yw ?_);intro K hK;go_simp;(with_reducible refine hK _ ?_);clear hK K)
    (with_reducible refine Yv ?_)
    intro w9 hy9;clear hun;try simp only[Ye]
    have Y9:=Ya (HXa.o.trans (Xk.o.trans hy9));clear hy9;have O9:=Ya (Hown.o.ext Y9.o);have hB9:=Y9.o.size;have R9:=Ya (show RdE Gl w9 (fun q=>B≤q∧q<w9.heap.size) (.slice (some ⟨go,0,none⟩) m Co) out from Rd.mono O9.o.rd fun q hq hl=>⟨hq,hl⟩);have T9:=Ya (show RdE Gl w9 (fun q=>B≤q∧q<w9.heap.size) (.slice (some ⟨go,0,none⟩) k Co) (out.take k) from RdE.take (by have:=R9.o;exact this) rfl (by rw[Hm.o];omega));have Tl9:=Ya (show(out.take k).length=k by rw[Zp,Hm.o];omega);have s0:(0:Int)≤(k:Int):=by omega
    have s1:(k:Int)≤(m:Int):=by omega
    have s2:(k:Int)≤(Co:Int):=by omega
    have s3:k≤Co:=by omega
    have s4:k≤m:=by omega
    by_cases hCk:Co=k
    ·have c1:∀ x y:Option Addr,(if Co=k then x else y)=x:=fun x y=>Zlg hCk
     have D9:=Ya (show RdE Gl w9 (fun q=>B≤q∧q<w9.heap.size) (.slice (some ⟨go,0,none⟩) (m-k) (Co-k)) (out.drop k) from RdE.drop (by have:=R9.o;exact this) rfl (by rw[Hm.o];omega) (by rw[Hm.o]) (fun h=>by omega) (by omega) (by unfold maxLen;omega));clear hCk;go_wp2_with (first
      | (at_builtin;refine Wy Gl _ _ _ rfl rfl rfl rfl (Own.nil Gl _ w9.heap.size) rfl T9.o (by rw[Tl9.o];show 0+_≤maxLen;unfold maxLen;omega) (by rw[Tl9.o];show(0+_)*8≤_;omega) (Yp _) ?_;intro A4 n4 c4 w4 hg4;have G4:=Ya hg4;have X4:=Ya (hg4.ext w9 (Yn _) (Yp _));have L4:=Ya (show n4=k by rw[hg4.len,Zo];exact Tl9.o);clear hg4)
      | (at_builtin;refine Wy Gl _ _ _ rfl rfl rfl rfl (G4.o.own.ext ((Yn _).alloc _)) rfl (Lg w4 i _ _ rfl) (by rw[← G4.o.len,L4.o];show _+1≤maxLen;unfold maxLen;omega) (by rw[← G4.o.len,L4.o];show(_+1)*8≤_;omega) (by have:=X4.o.size;simp;omega) ?_;intro A5 n5 c5 w5 hg5;have G5:=Ya hg5;have X5:=Ya (hg5.ext w9 (X4.o.alloc _) (Yp _));have L5:=Ya (show n5=k+1 by rw[hg5.len,Zs,← G4.o.len,L4.o];rfl);clear hg5)
      | (at_builtin;refine Wy Gl _ _ _ rfl rfl rfl rfl G5.o.own rfl (RdE.ext D9.o X5.o) (by rw[← G5.o.len,L5.o,Z8,Hm.o];unfold maxLen;omega) (by rw[← G5.o.len,L5.o,Z8,Hm.o];show(_+_)*8≤_;omega) X5.o.size ?_;intro A6 n6 c6 w6 hg6;have G6:=Ya hg6;have X6:=Ya (hg6.ext w9 X5.o (Yp _));have L6:=Ya (show n6=m+1 by rw[hg6.len,Zs,← G5.o.len,L5.o,Z8,Hm.o];omega);clear hg6))
     go_roundw;case rel=>exact⟨i+1,_,by omega,by go_num,by have h9:=G6.o.own;rw[Zo]at h9;exact h9.base (by omega),by rw[← Zo (out.take k)];have:=G6.o.len;rw[L6.o]at this;omega,Hpre.o.put Hd.o (by rw[Hm.o];omega) (fun q x h1 h2=>by rw[Hdo.o];exact Hhi.o q x h1 h2) (fun x _ h2=>by rw[hk1]at h2;rw[Hj.o]at h2;cases h2;rw[Hdj.o,Hdo.o];exact Hge.o),(Hx.o.trans Y9.o).trans X6.o⟩
     (simp[intOf];omega)
    have c1:∀ x y:Option Addr,(if Co=k then x else y)=y:=fun x y=>Zlk hCk
    have D9:=Ya (show RdE Gl w9 (fun q=>B≤q∧q<w9.heap.size) (.slice (some ⟨go,k,none⟩) (m-k) (Co-k)) (out.drop k) from RdE.drop (by have:=R9.o;exact this) rfl (by rw[Hm.o];omega) (by rw[Hm.o]) (fun h=>by rw[Zl0]) (by omega) (by unfold maxLen;omega));clear hCk;go_wp2_with (first
     | (at_builtin;refine Wy Gl _ _ _ rfl rfl rfl rfl (Own.nil Gl _ w9.heap.size) rfl T9.o (by rw[Tl9.o];show 0+_≤maxLen;unfold maxLen;omega) (by rw[Tl9.o];show(0+_)*8≤_;omega) (Yp _) ?_;intro A4 n4 c4 w4 hg4;have G4:=Ya hg4;have X4:=Ya (hg4.ext w9 (Yn _) (Yp _));have L4:=Ya (show n4=k by rw[hg4.len,Zo];exact Tl9.o);clear hg4)
     | (at_builtin;refine Wy Gl _ _ _ rfl rfl rfl rfl (G4.o.own.ext ((Yn _).alloc _)) rfl (Lg w4 i _ _ rfl) (by rw[← G4.o.len,L4.o];show _+1≤maxLen;unfold maxLen;omega) (by rw[← G4.o.len,L4.o];show(_+1)*8≤_;omega) (by have:=X4.o.size;simp;omega) ?_;intro A5 n5 c5 w5 hg5;have G5:=Ya hg5;have X5:=Ya (hg5.ext w9 (X4.o.alloc _) (Yp _));have L5:=Ya (show n5=k+1 by rw[hg5.len,Zs,← G4.o.len,L4.o];rfl);clear hg5)
     | (at_builtin;refine Wy Gl _ _ _ rfl rfl rfl rfl G5.o.own rfl (RdE.ext D9.o X5.o) (by rw[← G5.o.len,L5.o,Z8,Hm.o];unfold maxLen;omega) (by rw[← G5.o.len,L5.o,Z8,Hm.o];show(_+_)*8≤_;omega) X5.o.size ?_;intro A6 n6 c6 w6 hg6;have G6:=Ya hg6;have X6:=Ya (hg6.ext w9 X5.o (Yp _));have L6:=Ya (show n6=m+1 by rw[hg6.len,Zs,← G5.o.len,L5.o,Z8,Hm.o];omega);clear hg6))
    go_roundw;case rel=>exact⟨i+1,_,by omega,by go_num,by have h9:=G6.o.own;rw[Zo]at h9;exact h9.base (by omega),by rw[← Zo (out.take k)];have:=G6.o.len;rw[L6.o]at this;omega,Hpre.o.put Hd.o (by rw[Hm.o];omega) (fun q x h1 h2=>by rw[Hdo.o];exact Hhi.o q x h1 h2) (fun x _ h2=>by rw[hk1]at h2;rw[Hj.o]at h2;cases h2;rw[Hdj.o,Hdo.o];exact Hge.o),(Hx.o.trans Y9.o).trans X6.o⟩
    (simp[intOf];omega)
   have hlt:o.dec<oj.dec:=by simpa using hcmp
   have Hlt:=Ya hlt;clear hlt;go_upto_region 7 with fail;have hun:=Yd;refine Y0 (by kernel_rfl) (by kernel_rfl) ?_;repeat((with_reducible refine Yw ?_);intro K hK;go_simp;(with_reducible refine hK _ ?_);clear hK K)
   (with_reducible refine Yv ?_)
   intro w9 hy9;clear hun;try simp only[Ye]
   go_wp2_with fail;go_roundw;case rel =>
    refine⟨k1,by omega,rfl,fun q x h1 h2=>?_,Xk.o.trans hy9⟩;rcases(show k≤q∨q=k1 by omega)with h3|rfl
    ·exact Hhi.o q x h3 h2
    rw[Hj.o]at h2;cases h2;rw[Hdj.o];exact Hlt.o
   (simp[intOf];omega)
  have e1:decide ((0:Int)<(k:Int))=false:=Yi (by omega);have e1n:decide (0<k)=false:=Yi hk0;have Hk0:=Ya (show k=0 by omega);clear hk0;go_upto_region 7 with fail;have hA0:(Ao=none∧Yb (m=0)∧Yb (Co=0))∨∃ g,Ao=some ⟨g,0,none⟩:=by
   rcases Hown.o.2 with⟨h1,h2⟩ | ⟨g,c,_,h1,_⟩
   ·simp only[Yg]at h1;exact .inl ⟨h1.1,Ya (by rw[← Hm.o];exact h2),Ya h1.2.2⟩
   simp only[Yg]at h1;exact .inr ⟨g,h1.1⟩
  rcases hA0 with⟨rfl,Hm0,HC0⟩ | ⟨go,rfl⟩
  ·have hun:=Yd;refine Y0 (by kernel_rfl) (by kernel_rfl) ?_;repeat((with_reducible refine Yw ?_);intro K hK;go_simp;(with_reducible refine hK _ ?_);clear hK K)
   (with_reducible refine Yv ?_)
   intro w9 hy9;clear hun;try simp only[Ye]
   have Y9:=Ya (HXa.o.trans (Xk.o.trans hy9));clear hy9;have O9:=Ya (Hown.o.ext Y9.o);have hB9:=Y9.o.size;have R9:=Ya (show RdE Gl w9 (fun q=>B≤q∧q<w9.heap.size) (.slice none m Co) out from Rd.mono O9.o.rd fun q hq hl=>⟨hq,hl⟩);have T9:=Ya (show RdE Gl w9 (fun q=>B≤q∧q<w9.heap.size) (.slice none k Co) (out.take k) from RdE.take (by have:=R9.o;exact this) rfl (by rw[Hm.o];omega));have Tl9:=Ya (show(out.take k).length=k by rw[Zp,Hm.o];omega);have s0:(0:Int)≤(k:Int):=by omega
   have s1:(k:Int)≤(m:Int):=by omega
   have s2:(k:Int)≤(Co:Int):=by omega
   have s3:k≤Co:=by omega
   have s4:k≤m:=by omega
   have D9:=Ya (show RdE Gl w9 (fun q=>B≤q∧q<w9.heap.size) (.slice none (m-k) (Co-k)) (out.drop k) from by have h1:=Hk0.o;have h2:=R9.o;rw[show m-k=m by omega,show Co-k=Co by omega,h1,Z5];exact h2);go_wp2_with (first
    | (at_builtin;refine Wy Gl _ _ _ rfl rfl rfl rfl (Own.nil Gl _ w9.heap.size) rfl T9.o (by rw[Tl9.o];show 0+_≤maxLen;unfold maxLen;omega) (by rw[Tl9.o];show(0+_)*8≤_;omega) (Yp _) ?_;intro A4 n4 c4 w4 hg4;have G4:=Ya hg4;have X4:=Ya (hg4.ext w9 (Yn _) (Yp _));have L4:=Ya (show n4=k by rw[hg4.len,Zo];exact Tl9.o);clear hg4)
    | (at_builtin;refine Wy Gl _ _ _ rfl rfl rfl rfl (G4.o.own.ext ((Yn _).alloc _)) rfl (Lg w4 i _ _ rfl) (by rw[← G4.o.len,L4.o];show _+1≤maxLen;unfold maxLen;omega) (by rw[← G4.o.len,L4.o];show(_+1)*8≤_;omega) (by have:=X4.o.size;simp;omega) ?_;intro A5 n5 c5 w5 hg5;have G5:=Ya hg5;have X5:=Ya (hg5.ext w9 (X4.o.alloc _) (Yp _));have L5:=Ya (show n5=k+1 by rw[hg5.len,Zs,← G4.o.len,L4.o];rfl);clear hg5)
    | (at_builtin;refine Wy Gl _ _ _ rfl rfl rfl rfl G5.o.own rfl (RdE.ext D9.o X5.o) (by rw[← G5.o.len,L5.o,Z8,Hm.o];unfold maxLen;omega) (by rw[← G5.o.len,L5.o,Z8,Hm.o];show(_+_)*8≤_;omega) X5.o.size ?_;intro A6 n6 c6 w6 hg6;have G6:=Ya hg6;have X6:=Ya (hg6.ext w9 X5.o (Yp _));have L6:=Ya (show n6=m+1 by rw[hg6.len,Zs,← G5.o.len,L5.o,Z8,Hm.o];omega);clear hg6))
   go_roundw;case rel=>exact⟨i+1,_,by omega,by go_num,by have h9:=G6.o.own;rw[Zo]at h9;exact h9.base (by omega),by rw[← Zo (out.take k)];have:=G6.o.len;rw[L6.o]at this;omega,Hpre.o.put Hd.o (by rw[Hm.o];omega) (fun q x h1 h2=>by rw[Hdo.o];exact Hhi.o q x h1 h2) (fun x h1 _=>absurd h1 (by have:=Hk0.o;omega)),(Hx.o.trans Y9.o).trans X6.o⟩
   (simp[intOf];omega)
  have hun:=Yd;refine Y0 (by kernel_rfl) (by kernel_rfl) ?_;repeat((with_reducible refine Yw ?_);intro K hK;go_simp;(with_reducible refine hK _ ?_);clear hK K)
  (with_reducible refine Yv ?_)
  intro w9 hy9;clear hun;try simp only[Ye]
  have Y9:=Ya (HXa.o.trans (Xk.o.trans hy9));clear hy9;have O9:=Ya (Hown.o.ext Y9.o);have hB9:=Y9.o.size;have R9:=Ya (show RdE Gl w9 (fun q=>B≤q∧q<w9.heap.size) (.slice (some ⟨go,0,none⟩) m Co) out from Rd.mono O9.o.rd fun q hq hl=>⟨hq,hl⟩);have T9:=Ya (show RdE Gl w9 (fun q=>B≤q∧q<w9.heap.size) (.slice (some ⟨go,0,none⟩) k Co) (out.take k) from RdE.take (by have:=R9.o;exact this) rfl (by rw[Hm.o];omega));have Tl9:=Ya (show(out.take k).length=k by rw[Zp,Hm.o];omega);have s0:(0:Int)≤(k:Int):=by omega
  have s1:(k:Int)≤(m:Int):=by omega
  have s2:(k:Int)≤(Co:Int):=by omega
  have s3:k≤Co:=by omega
  have s4:k≤m:=by omega
  by_cases hCk:Co=k
  ·have c1:∀ x y:Option Addr,(if Co=k then x else y)=x:=fun x y=>Zlg hCk
   have D9:=Ya (show RdE Gl w9 (fun q=>B≤q∧q<w9.heap.size) (.slice (some ⟨go,0,none⟩) (m-k) (Co-k)) (out.drop k) from RdE.drop (by have:=R9.o;exact this) rfl (by rw[Hm.o];omega) (by rw[Hm.o]) (fun h=>by omega) (by omega) (by unfold maxLen;omega));clear hCk;go_wp2_with (first
    | (at_builtin;refine Wy Gl _ _ _ rfl rfl rfl rfl (Own.nil Gl _ w9.heap.size) rfl T9.o (by rw[Tl9.o];show 0+_≤maxLen;unfold maxLen;omega) (by rw[Tl9.o];show(0+_)*8≤_;omega) (Yp _) ?_;intro A4 n4 c4 w4 hg4;have G4:=Ya hg4;have X4:=Ya (hg4.ext w9 (Yn _) (Yp _));have L4:=Ya (show n4=k by rw[hg4.len,Zo];exact Tl9.o);clear hg4)
    | (at_builtin;refine Wy Gl _ _ _ rfl rfl rfl rfl (G4.o.own.ext ((Yn _).alloc _)) rfl (Lg w4 i _ _ rfl) (by rw[← G4.o.len,L4.o];show _+1≤maxLen;unfold maxLen;omega) (by rw[← G4.o.len,L4.o];show(_+1)*8≤_;omega) (by have:=X4.o.size;simp;omega) ?_;intro A5 n5 c5 w5 hg5;have G5:=Ya hg5;have X5:=Ya (hg5.ext w9 (X4.o.alloc _) (Yp _));have L5:=Ya (show n5=k+1 by rw[hg5.len,Zs,← G4.o.len,L4.o];rfl);clear hg5)
    | (at_builtin;refine Wy Gl _ _ _ rfl rfl rfl rfl G5.o.own rfl (RdE.ext D9.o X5.o) (by rw[← G5.o.len,L5.o,Z8,Hm.o];unfold maxLen;omega) (by rw[← G5.o.len,L5.o,Z8,Hm.o];show(_+_)*8≤_;omega) X5.o.size ?_;intro A6 n6 c6 w6 hg6;have G6:=Ya hg6;have X6:=Ya (hg6.ext w9 X5.o (Yp _));have L6:=Ya (show n6=m+1 by rw[hg6.len,Zs,← G5.o.len,L5.o,Z8,Hm.o];omega);clear hg6))
   go_roundw;case rel=>exact⟨i+1,_,by omega,by go_num,by have h9:=G6.o.own;rw[Zo]at h9;exact h9.base (by omega),by rw[← Zo (out.take k)];have:=G6.o.len;rw[L6.o]at this;omega,Hpre.o.put Hd.o (by rw[Hm.o];omega) (fun q x h1 h2=>by rw[Hdo.o];exact Hhi.o q x h1 h2) (fun x h1 _=>absurd h1 (by have:=Hk0.o;omega)),(Hx.o.trans Y9.o).trans X6.o⟩
   (simp[intOf];omega)
  have c1:∀ x y:Option Addr,(if Co=k then x else y)=y:=fun x y=>Zlk hCk
  have D9:=Ya (show RdE Gl w9 (fun q=>B≤q∧q<w9.heap.size) (.slice (some ⟨go,k,none⟩) (m-k) (Co-k)) (out.drop k) from RdE.drop (by have:=R9.o;exact this) rfl (by rw[Hm.o];omega) (by rw[Hm.o]) (fun h=>by rw[Zl0]) (by omega) (by unfold maxLen;omega));clear hCk;go_wp2_with (first
   | (at_builtin;refine Wy Gl _ _ _ rfl rfl rfl rfl (Own.nil Gl _ w9.heap.size) rfl T9.o (by rw[Tl9.o];show 0+_≤maxLen;unfold maxLen;omega) (by rw[Tl9.o];show(0+_)*8≤_;omega) (Yp _) ?_;intro A4 n4 c4 w4 hg4;have G4:=Ya hg4;have X4:=Ya (hg4.ext w9 (Yn _) (Yp _));have L4:=Ya (show n4=k by rw[hg4.len,Zo];exact Tl9.o);clear hg4)
   | (at_builtin;refine Wy Gl _ _ _ rfl rfl rfl rfl (G4.o.own.ext ((Yn _).alloc _)) rfl (Lg w4 i _ _ rfl) (by rw[← G4.o.len,L4.o];show _+1≤maxLen;unfold maxLen;omega) (by rw[← G4.o.len,L4.o];show(_+1)*8≤_;omega) (by have:=X4.o.size;simp;omega) ?_;intro A5 n5 c5 w5 hg5;have G5:=Ya hg5;have X5:=Ya (hg5.ext w9 (X4.o.alloc _) (Yp _));have L5:=Ya (show n5=k+1 by rw[hg5.len,Zs,← G4.o.len,L4.o];rfl);clear hg5)
   | (at_builtin;refine Wy Gl _ _ _ rfl rfl rfl rfl G5.o.own rfl (RdE.ext D9.o X5.o) (by rw[← G5.o.len,L5.o,Z8,Hm.o];unfold maxLen;omega) (by rw[← G5.o.len,L5.o,Z8,Hm.o];show(_+_)*8≤_;omega) X5.o.size ?_;intro A6 n6 c6 w6 hg6;have G6:=Ya hg6;have X6:=Ya (hg6.ext w9 X5.o (Yp _));have L6:=Ya (show n6=m+1 by rw[hg6.len,Zs,← G5.o.len,L5.o,Z8,Hm.o];omega);clear hg6))
  go_roundw;case rel=>exact⟨i+1,_,by omega,by go_num,by have h9:=G6.o.own;rw[Zo]at h9;exact h9.base (by omega),by rw[← Zo (out.take k)];have:=G6.o.len;rw[L6.o]at this;omega,Hpre.o.put Hd.o (by rw[Hm.o];omega) (fun q x h1 h2=>by rw[Hdo.o];exact Hhi.o q x h1 h2) (fun x h1 _=>absurd h1 (by have:=Hk0.o;omega)),(Hx.o.trans Y9.o).trans X6.o⟩
  (simp[intOf];omega)
 have hd_i:=GEl i n (by omega);obtain rfl:i=n:=by omega
 go_wp2_with fail;go_ret;have hp:=Hpre.o;have hres:out=Nq os:=by rw[← Hnn.o]at hp;exact hp.done
 refine⟨_,rfl,?_,Hx.o⟩;have h9:=Hown.o.rd;rw[HB.o];unfold Vh;rw[← hres,Hm.o];have h8:Rd wr (fun k=>B≤k) 1 (.slice Ao m Co) out.length (out.map Tn):=h9
 rwa [Hm.o]at h8
end Go.Proofs.YtnbclgbicnpmnaaGreat
