/- Lemmas of this claim: Sc, Rf2, Sd. Conditions: as named. -/
import Derived.Test.YtnbclgbicnpmnaaGreatA21
namespace Go.Proofs.YtnbclgbicnpmnaaGreat
open Go.RowKit Go.Sort Tryz
set_option maxHeartbeats 0
set_option maxRecDepth 100000
set_option linter.all false
theorem Ztc{S S':Nat→Prop}(T:Tbl)(hf:Few T)(hu:Uq T)(v:Value)(l:List Int)(w:World)(h:Xk w S T)(hl:Xx w S' v l):Calls prog 201 #[Vn T,v] w (F8 w):=by
 obtain⟨A,C,rfl,hlCC,hCC⟩:=hl.shape;obtain⟨n,hnn⟩:=gnX ((l).length);have Hnn:=Y4 hnn;have Hhl:=Y4 hl;unfold maxLen at hCC;rw[hnn]at hlCC⊢;clear hl hnn;have X0:=Y4 ((Yl w).alloc (Wx T));have H:=Y4 (h.up X0.o);have Hb0:=Y4 (Xm w T);clear h;have HL:=Y4 (show Xx (w.alloc (Wx T)) S' (.slice A n C) l by have:=Hhl.o.ext X0.o;rwa [Hnn.o]at this);have Hf:=Y4 hf;have Hu:=Y4 hu;clear hf hu;go_enter func201,ntmps201;go_wp2_with (first|(refine Xw rfl ?_)|(refine Xz Hb0.o rfl ?_));refine(Vc T Hf.o Hu.o _ l _ H.o HL.o).mono ?_;rintro e w1 ⟨x,rfl,_,hx1⟩;have Hx1:=Y4 hx1;clear hx1;by_cases h0:x=0
 ·subst h0;go_wp2_with fail;go_loopw [21,7,8] (fun o u k wr=>∃ (i:Nat) (q r:Bool),i≤n∧o=.int .i64 (i:Int)∧u=.bool q∧k=.bool r∧Ext (w.alloc (Wx T)) wr) (fun o _ _ _=>n-(intOf o).toNat);case atStart=>exact⟨0,true,true,by omega,rfl,rfl,rfl,Hx1.o⟩
  clear Hx1;obtain⟨i,q,r,hi,rfl,rfl,rfl,hx⟩:=hrel;have Hx:=Y4 hx;clear hx;by_cases hlt:i<n
  ·obtain⟨hd_i,i0_i,i1_i⟩:=LTl i n;obtain⟨c,hs_c⟩:=geX (l:=(l)) (i:=i) (by have:=Hnn.o;omega);obtain⟨g_c,o_c,c_c,hvv,_,_,_,hgl_c,a0_c⟩:=(HL.o.ext Hx.o).get hs_c;simp only[Ye]at hvv;obtain⟨rfl,-,rfl⟩:=hvv;have Hs_c:=Y4 hs_c;clear hs_c;cases q<;>cases r
   ·go_wp2_with fail;go_roundw;case rel=>exact⟨i+1,_,_,by omega,by go_num,rfl,rfl,Hx.o⟩
    (simp[intOf];omega)
   ·go_wp2_with (refine Wo (Hb0.o.ext Hx.o) (by go_simp) rfl ?_);refine(Eg T Hf.o _ _ (H.o.up Hx.o)).mono ?_;rintro e w2 ⟨z,rfl,hx2⟩;go_wp2_with fail;go_roundw;case rel=>exact⟨i+1,_,_,by omega,by go_num,rfl,rfl,Hx.o.trans hx2⟩
    (simp[intOf];omega)
   ·go_wp2_with fail;go_roundw;case rel=>exact⟨i+1,_,_,by omega,by go_num,rfl,rfl,Hx.o⟩
    (simp[intOf];omega)
   go_wp2_with (refine Wo (Hb0.o.ext Hx.o) (by go_simp) rfl ?_);refine(Eg T Hf.o _ _ (H.o.up Hx.o)).mono ?_;rintro e w2 ⟨z,rfl,hx2⟩;go_wp2_with fail;go_roundw;case rel=>exact⟨i+1,_,_,by omega,by go_num,rfl,rfl,Hx.o.trans hx2⟩
   (simp[intOf];omega)
  have hd_i:=GEl i n;cases q
  rotate_left
  ·go_wp2_with fail;go_ret2;exact⟨_,_,rfl,X0.o.trans Hx.o⟩
  go_wp2_with (refine Xz (Hb0.o.ext Hx.o) rfl ?_);refine(Zvu T Hf.o Hu.o _ l _ (H.o.up Hx.o) (HL.o.ext Hx.o)).mono ?_;rintro e w2 ⟨b,rfl,hx2⟩;have Hx2:=Y4 (Hx.o.trans hx2);clear hx2 Hx hlt hd_i hi;cases b
  rotate_left
  ·go_wp2_with fail;go_ret2;exact⟨_,_,rfl,X0.o.trans Hx2.o⟩
  go_wp2_with fail;go_loopw [11] (fun o wr=>∃ k:Nat,61≤k∧k≤64∧o=.int .i64 (k:Int)∧Ext (w.alloc (Wx T)) wr) (fun o _=>64-(intOf o).toNat);case atStart=>exact⟨61,by omega,by omega,rfl,Hx2.o⟩
  clear Hx2;obtain⟨k,hk1,hk2,rfl,hx⟩:=hrel;have Hx:=Y4 hx;clear hx;by_cases hlt:k≤63
  ·have hd:decide ((k:Int)≤63)=true:=Yf;go_wp2_with (refine Xz (Hb0.o.ext Hx.o) rfl ?_);refine(Ls T Hf.o Hu.o _ l _ _ (H.o.up Hx.o) (HL.o.ext Hx.o)).mono ?_;rintro e w3 ⟨b,rfl,hx3⟩;cases b
   ·go_wp2_with fail;go_roundw;case rel=>exact⟨k+1,by omega,by omega,by go_num,Hx.o.trans hx3⟩
    (simp[intOf];omega)
   go_wp2_with fail;go_ret2;exact⟨_,_,rfl,X0.o.trans (Hx.o.trans hx3)⟩
  have hd:decide ((k:Int)≤63)=false:=Yg;go_wp2_with fail;have Hx2:=Y4 Hx.o;clear Hx hlt hd;go_loopw [12] (fun o wr=>∃ k:Nat,3≤k∧k≤61∧o=.int .i64 (k:Int)∧Ext (w.alloc (Wx T)) wr) (fun o _=>61-(intOf o).toNat);case atStart=>exact⟨3,by omega,by omega,rfl,Hx2.o⟩
  clear Hx2;obtain⟨k,hk1,hk2,rfl,hx⟩:=hrel;have Hx:=Y4 hx;clear hx;by_cases hlt:k≤60
  ·have hd:decide ((k:Int)≤60)=true:=Yf;rcases(show k=3∨k=4∨k=5∨6≤k by omega)with rfl|rfl|rfl|h6
   ·go_wp2_with fail;go_roundw;case rel=>exact⟨4,by omega,by omega,rfl,Hx.o⟩
    (simp[intOf])
   ·go_wp2_with fail;go_roundw;case rel=>exact⟨5,by omega,by omega,rfl,Hx.o⟩
    (simp[intOf])
   ·go_wp2_with fail;go_roundw;case rel=>exact⟨6,by omega,by omega,rfl,Hx.o⟩
    (simp[intOf])
   have c1:¬ (k:Int)=4:=by omega
   have c2:¬ (k:Int)=5:=by omega
   have c3:¬ (k:Int)=3:=by omega
   have c4:((k:Int)!=4)=true:=by simp;omega
   have c5:((k:Int)!=5)=true:=by simp;omega
   have c6:((k:Int)!=3)=true:=by simp;omega
   go_wp2_with (refine Wo (Hb0.o.ext Hx.o) (by go_simp) rfl ?_);refine(Ls T Hf.o Hu.o _ l _ _ (H.o.up Hx.o) (HL.o.ext Hx.o)).mono ?_;rintro e w3 ⟨b,rfl,hx3⟩;cases b
   ·go_wp2_with fail;go_roundw;case rel=>exact⟨k+1,by omega,by omega,by go_num,Hx.o.trans hx3⟩
    (simp[intOf];omega)
   go_wp2_with fail;go_ret2;exact⟨_,_,rfl,X0.o.trans (Hx.o.trans hx3)⟩
  have hd:decide ((k:Int)≤60)=false:=Yg;cases r
  all_goals
   go_wp2_with fail;go_ret2;exact⟨_,_,rfl,X0.o.trans Hx.o⟩
 have h0b:(!(x==0))=true:=by simp[h0]
 have h0c:(x !=0)=true:=h0b;have h0d:(x==0)=false:=by simp[h0]
 have h0H:=Y4 h0;clear h0;go_wp2_with fail;go_ret2;exact⟨_,_,rfl,X0.o.trans Hx1.o⟩
def Zuo(N:Nat)(w:World)(e:Ending)(w':World):Prop:=∃ (s:ByteArray) (p x:Int),e=.returned (.tuple #[.string s,.int .i64 p,.int .i64 x])∧s.size≤N∧Ext w w'
def Zv4(K N:Nat)(w:World)(e:Ending)(w':World):Prop:=∃ (s:ByteArray) (p x:Int),e=.returned (.tuple #[.string s,.int .i64 p,.int .i64 x])∧s.size≤N∧(x=0→K=1→1≤s.size∧s.size≤63)∧Ext w w'
theorem I8{K N:Nat}{w w':World}(p x:Int)(hx:x≠0)(h:Ext w w'):Zv4 K N w (.returned (.tuple #[.string ⟨#[]⟩,.int .i64 p,.int .i64 x])) w':=⟨_,p,x,rfl,Zjn _,fun e=>absurd e hx,h⟩
theorem Zph{l:List ByteArray}{t:ByteArray}{n K:Nat}(hc:clE l=0)(ht:clE l=0→∀ x,l=[x]→t.size=x.size)(hl:l.length=n)(hn:n=0∨n=K)(h63:∀ s∈l,s.size≤63)(hK:K=1):1≤t.size∧t.size≤63:=by
 obtain⟨h0,h1⟩:=Zn7 hc;obtain⟨x,rfl⟩:∃ x,l=[x]:=List.length_eq_one_iff.1 (by omega);rw[ht hc x rfl];exact⟨h1 x (by simp),h63 x (by simp)⟩
theorem Zlr{N:Nat}{w w':World}(p x:Int)(h:Ext w w'):Zuo N w (.returned (.tuple #[.string ⟨#[]⟩,.int .i64 p,.int .i64 x])) w':=⟨_,p,x,rfl,Zjn _,h⟩
theorem Zow(w:World)(s:ByteArray)(t:TypeId)(g:Nat)(hg:w.heap.size=g):RdE Jr (w.alloc (.cells #[.string s] t)) (fun _=>True) (.slice (some ⟨g,0,none⟩) 1 1) [s]:=by
 subst hg;have h1:(w.alloc (.cells #[.string s] t)).heap[w.heap.size]?=some (.cells #[.string s] t):=Zjc w _;refine⟨rfl,_,_,rfl,Yn _,by unfold maxLen;show 1≤_;omega,fun _=>⟨_,_,rfl,trivial,(Zjz.1 h1).1,fun j u hu=>?_⟩⟩;simp only[World.cell?,h1];rw[Zjd,← hu];show _=([Value.string s]:List Value)[j]?;simp
theorem Nr{S:Nat→Prop}(T:Tbl)(hf:Few T)(hu:Uq T)(s:ByteArray)(w:World)(h:Xk w S T):Calls prog 199 #[Vn T,.string s] w (Zv4 (Zka T s) 400000 w):=by
 have X0:=Y4 ((Yl w).alloc (Wx T));have H:=Y4 (h.up X0.o);have Hb0:=Y4 (Xm w T);clear h;have Hf:=Y4 hf;have Hu:=Y4 hu;clear hf hu;go_enter func199,ntmps199;go_wp2_with (first|(refine Xw rfl ?_)|(refine Xz Hb0.o rfl ?_));refine(Bo T Hf.o Hu.o s _ H.o).mono ?_;rintro e w1 ⟨v,ls,p,x,rfl,hls,⟨hlen,hnl⟩,hmem,hx1⟩;have Hx1:=Y4 hx1;clear hx1;by_cases h0:x=0
 ·subst h0;obtain⟨A,C,rfl,hlC,hC⟩:=hls.shape;obtain⟨n,hnn⟩:=gnX (ls.length);have Hh:=Y4 hls;rw[hnn]at hlC hlen hnl⊢;have Hnl:=Y4 hnl;clear hnl;have Hnn:=Y4 hnn;have Hmem:=Y4 hmem;obtain⟨B,hB⟩:=gnX (w1.heap.size);have HB:=Y4 hB;unfold maxLen at hC;clear hls hnn hmem hB;go_wp2_with fail;go_loopw [32,10] (fun o u wr=>∃ (i:Nat) (ss:List ByteArray),i≤n∧o=.int .i64 (i:Int)∧Own Jr wr B u ss∧ss.length=i∧(∀ s∈ss,s.size≤63)∧Ext w1 wr) (fun o _ _=>n-(intOf o).toNat);case atStart=>exact⟨0,[],by omega,rfl,Own.nil _ _ _,by simp,by simp,Yl _⟩
  obtain⟨i,ss,hi,rfl,ho,hsl,hss,hx⟩:=hrel;obtain⟨A2,C2,rfl,hlC2,hC2⟩:=ho.shape;obtain⟨m,hm⟩:=gnX (ss.length);have hoI:Own Jr wr B (.slice A2 m C2) ss:=by rw[← hm];exact ho
  rw[hm]at hlC2 hsl⊢;have Hsl:=Y4 hsl;replace hsl:m≤i:=by omega
  have Hx:=Y4 hx;have Ho:=Y4 hoI;have Hm:=Y4 hm;have Hss:=Y4 hss;have hBw:B≤wr.heap.size:=by rw[← HB.o];exact hx.size
  unfold maxLen at hC2;clear hx ho hoI hm hss;by_cases hlt:i<n
  ·obtain⟨hd_i,i0_i,i1_i⟩:=LTl i n;obtain⟨x,hx0⟩:=geX (l:=ls) (i:=i) (by rw[Hnn.o];exact hlt);obtain⟨g,o,c,u,hv,_,_,hg,c0,hxu⟩:=Hh.o.get hx0;simp only[Ye]at hv;obtain⟨rfl,-,rfl⟩:=hv;replace c0:=(Hx.o.cell (p:=⟨g,o+i,none⟩) hg).trans c0;have Hxu:=Y4 hxu;have hxl:=Hmem.o x (Zy hx0);clear hxu hx0;go_wp2_with fail;refine(Tt _ x _ (Hxu.o.ext Hx.o) (by omega)).mono ?_;rintro e w2 ⟨t,y,rfl,ht,_,hx2⟩;have Hx2:=Y4 (Hx.o.trans hx2);have Ho2:=Y4 (Ho.o.ext hx2);have hs2:=hx2.size;clear hx2;by_cases hy:y=0
   ·subst hy;go_wp2_with (at_builtin;refine Xt Jr _ _ _ rfl rfl rfl rfl (Ho2.o.ext ((Yl _).alloc _)) rfl (Zow w2 t _ _ rfl) (by rw[Hm.o];show m+1≤_;omega) (by show 16≤1000;omega) (by simp;omega) ?_;intro A5 n5 c5 w5 hg5;have Hx5:=Y4 (hg5.ext w1 (Hx2.o.alloc _) (by rw[HB.o];exact Yn _));have Hg5:=Y4 hg5;clear hg5);go_roundw;case rel =>
     refine⟨i+1,_,by omega,by go_num,Hg5.o.own,by rw[Zs,Hm.o];show m+1=_;have:=Hsl.o;omega,fun s hs=>?_,Hx5.o⟩;rcases Zj.1 hs with h1|h1
     ·exact Hss.o s h1
     rw[Zi.1 h1];exact ht
    case measure=>(simp[intOf];omega)
   have hyb:(!(y==0))=true:=by simp[hy]
   have hyc:(y !=0)=true:=hyb;have hyd:(y==0)=false:=by simp[hy]
   have hyH:=Y4 hy;clear hy;go_wp2_with fail;go_ret3;exact I8 _ _ hyH.o (X0.o.trans (Hx1.o.trans Hx2.o))
  have hd_i:=GEl i n;go_wp2_with fail;refine(Un _ ss _ (show RdE Jr wr _ (.slice A2 m C2) ss by have:=Ho.o.rd;rw[← Hm.o]at this⊢;exact this) (by rw[Hm.o];omega) Hss.o).mono ?_;rintro e w2 ⟨y,rfl,hx2⟩;obtain⟨z,hze⟩:=gnX (clE ss);rw[hze];have Hze:=Y4 hze;clear hze;have Hx2:=Y4 (Hx.o.trans hx2);have Ho2:=Y4 (Ho.o.ext hx2);clear hx2;by_cases hz:z=0
  ·subst hz;go_wp2_with fail;refine(Zwc _ ss _ (show RdE Jr w2 _ (.slice A2 m C2) ss by have:=Ho2.o.rd;rw[← Hm.o]at this⊢;exact this) (by rw[Hm.o];omega) Hss.o).mono ?_;rintro e w3 ⟨t,y3,rfl,ht,ht1,hx3⟩;have Ht1:=Y4 ht1;clear ht1;go_wp2_with fail;go_ret3;exact⟨t,_,_,rfl,ht,fun _ hK=>Zph Hze.o Ht1.o Hm.o (by have:=Hnl.o;have:=Hsl.o;omega) Hss.o hK,X0.o.trans (Hx1.o.trans (Hx2.o.trans hx3))⟩
  have hzb:(!(z==0))=true:=by simp[hz]
  have hzc:(z !=0)=true:=hzb;have hzd:(z==0)=false:=by simp[hz]
  have hzH:=Y4 hz;clear hz;go_wp2_with fail;go_ret3;exact I8 _ _ hzH.o (X0.o.trans (Hx1.o.trans Hx2.o))
 have h0b:(!(x==0))=true:=by simp[h0]
 have h0c:(x !=0)=true:=h0b;have h0d:(x==0)=false:=by simp[h0]
 have h0H:=Y4 h0;clear h0;go_wp2_with fail;go_ret3;exact I8 _ _ h0H.o (X0.o.trans Hx1.o)
theorem Rf{S:Nat→Prop}(T:Tbl)(hf:Few T)(hu:Uq T)(s:ByteArray)(w:World)(h:Xk w S T):Calls prog 203 #[Vn T,.string s] w (Zuo 100000000 w):=by
 have X0:=Y4 ((Yl w).alloc (Wx T));have H:=Y4 (h.up X0.o);have Hb0:=Y4 (Xm w T);clear h;have Hf:=Y4 hf;have Hu:=Y4 hu;clear hf hu;go_enter func203,ntmps203;go_wp2_with (first|(refine Xw rfl ?_)|(refine Xz Hb0.o rfl ?_));refine(Nr T Hf.o Hu.o s _ H.o).mono ?_;rintro e w1 ⟨t,p,x,rfl,_,_,hx1⟩;have Hx1:=Y4 hx1;clear hx1;by_cases h0:x=0
 ·subst h0;go_wp2_with (refine Xz (Hb0.o.ext Hx1.o) rfl ?_);refine(Bo T Hf.o Hu.o s _ (H.o.up Hx1.o)).mono ?_;rintro e w2 ⟨v,ls,p2,x2,rfl,hls,⟨hlen,_⟩,hmem,hx2⟩;have Hx2:=Y4 (Hx1.o.trans hx2);clear hx2;go_wp2_with fail;refine(Zq8 v ls _ hls hlen hmem).mono ?_;rintro e w3 ⟨u,l,rfl,hl,hl3,hx3⟩;have Hx3:=Y4 (Hx2.o.trans hx3);clear hx3;go_wp2_with fail;refine(Dt u l _ hl).mono ?_;rintro e w4 ⟨t4,x4,rfl,ht4,hx4⟩;go_wp2_with fail;go_ret3;exact⟨t4,_,_,rfl,by omega,X0.o.trans (Hx3.o.trans hx4)⟩
 have h0b:(!(x==0))=true:=by simp[h0]
 have h0c:(x !=0)=true:=h0b;have h0d:(x==0)=false:=by simp[h0]
 have h0H:=Y4 h0;clear h0;go_wp2_with fail;go_ret3;exact Zlr _ _ (X0.o.trans Hx1.o)
def Zv5(w:World)(e:Ending)(w':World):Prop:=∃ (a u k:ByteArray) (x:Int),e=.returned (.tuple #[.agg #[.string a,.string u,.string k],.int .i64 x])∧a.size≤400000∧u.size≤100000000∧k.size≤16384∧(x=0→1≤a.size∧a.size≤63)∧Ext w w'
structure BZ(w:World)(b:Nat):Prop where
 lt:b<w.heap.size
 fz:∀ i,w.frozen? ⟨b,i,none⟩=false
 c0:w.cell? ⟨b,0,none⟩=some (.string ⟨#[]⟩)
 c1:w.cell? ⟨b,1,none⟩=some (.string ⟨#[]⟩)
 c2:w.cell? ⟨b,2,none⟩=some (.string ⟨#[]⟩)
theorem BZ.ext{w w':World}{b:Nat}(h:BZ w b)(x:Ext w w'):BZ w' b :=
 ⟨Zk8 h.lt x.size,fun i=>(x.frozen (p:=⟨b,i,none⟩) h.lt).trans (h.fz i),(x.cell (p:=⟨b,0,none⟩) h.lt).trans h.c0,(x.cell (p:=⟨b,1,none⟩) h.lt).trans h.c1,(x.cell (p:=⟨b,2,none⟩) h.lt).trans h.c2⟩
theorem Zl6(w:World)(t:TypeId)(b:Nat)(hb:w.heap.size=b):BZ (w.alloc (.cells #[.string ⟨#[]⟩,.string ⟨#[]⟩,.string ⟨#[]⟩] t)) b:=by
 subst hb;exact⟨by simp,fun i=>by go_simp,by go_simp,by go_simp,by go_simp⟩
theorem Zuc{S:Nat→Prop}(T:Tbl)(hf:Few T)(hu:Uq T)(s:ByteArray)(w:World)(h:Xk w S T):Calls prog 191 #[Vn T,.string s] w (Zv5 w):=by
 have X0:=Y4 ((Yl w).alloc (Wx T));have H:=Y4 (h.up X0.o);have Hb0:=Y4 (Xm w T);clear h;have Hf:=Y4 hf;have Hu:=Y4 hu;clear hf hu;go_enter func191,ntmps191;go_wp2_with (first|(refine Xw rfl ?_)|(refine Xz (Hb0.o.ext ((Yl _).alloc _)) rfl ?_));have hbz:=Zl6 (w.alloc (Wx T)) 109 (w.heap.size+1) (by simp);have hx0:=X0.o.alloc (.cells #[.string ⟨#[]⟩,.string ⟨#[]⟩,.string ⟨#[]⟩] 109);have h01:=(Yl (w.alloc (Wx T))).alloc (.cells #[.string ⟨#[]⟩,.string ⟨#[]⟩,.string ⟨#[]⟩] 109);obtain⟨W0,hW0⟩:=gnX ((w.alloc (Wx T)).alloc (.cells #[.string ⟨#[]⟩,.string ⟨#[]⟩,.string ⟨#[]⟩] 109));rw[hW0]at hbz hx0 h01⊢;obtain⟨b,hb⟩:=gnX (w.heap.size+1);rw[hb]at hbz⊢;have HX0:=Y4 hx0;have H1:=Y4 (H.o.up h01);have Hb1:=Y4 (Hb0.o.ext h01);have HBZ:=Y4 hbz;have hbw:w.heap.size≤b:=by omega
 have Hbw:=Y4 hbw;clear hbz hx0 h01 hW0 hb hbw X0 H Hb0;refine(Nr T Hf.o Hu.o s _ H1.o).mono ?_;rintro e w1 ⟨a,p,x,rfl,hal,ha1,hx1⟩;have Ha1:=Y4 ha1;clear ha1;have Hx1:=Y4 hx1;clear hx1;by_cases h0:x=0
 ·subst h0;go_wp2_with (refine Xz (Hb1.o.ext Hx1.o) rfl ?_);refine(Bo T Hf.o Hu.o s _ (H1.o.up Hx1.o)).mono ?_;rintro e w2 ⟨v,ls,p2,x2,rfl,hls,⟨hlen,hnl⟩,hmem,hx2⟩;have Hx2:=Y4 (Hx1.o.trans hx2);clear hx2 Hx1;obtain⟨A,C,rfl,hlC,hC⟩:=hls.shape;obtain⟨n,hnn⟩:=gnX (ls.length);have Hh:=Y4 (show Zxd w2 (.slice A n C) ls by rw[← hnn];exact hls);rw[hnn]at hlC hlen hnl⊢;have Hnl:=Y4 hnl;clear hnl;have Hnn:=Y4 hnn;have Hmem:=Y4 hmem;clear hls hnn hmem hC;by_cases hn1:n=1
  ·subst hn1;have HA:=Y4 (show 1≤a.size∧a.size≤63 from Ha1.o (by first|exact True.intro|rfl) (by have:=Hnl.o;omega));obtain⟨l,hl0⟩:=geX (l:=ls) (i:=0) (by rw[Hnn.o];omega);obtain⟨g,o,c,u,hv,_,_,hg,c0',hxu⟩:=Hh.o.get hl0;rw[Hnn.o]at hv;simp only[Ye]at hv;obtain⟨rfl,-,rfl⟩:=hv;rw[Zix]at c0';have hll:=Hmem.o l (Zy hl0);obtain⟨A3,C3,rfl,hl3,hc3⟩:=hxu.shape;have Hxu:=Y4 hxu;obtain⟨k,hk⟩:=gnX (l.length);have Hxk:=Y4 (show Xx w2 (fun _=>True) (.slice A3 k C3) l by rw[← hk];exact hxu);rw[hk]at c0';clear hxu hl0 hk Hh;have hbq:=Hb1.o.ext Hx2.o;have z0:(w2).cell? ⟨w.heap.size,0,none⟩=some T.catV:=(hbq).at_ 0 (by omega);have z1:(w2).cell? ⟨w.heap.size,1,none⟩=some T.clsV:=(hbq).at_ 1 (by omega);have z2:(w2).cell? ⟨w.heap.size,2,none⟩=some T.joiV:=(hbq).at_ 2 (by omega);have z3:(w2).cell? ⟨w.heap.size,3,none⟩=some T.bidV:=(hbq).at_ 3 (by omega);have z4:(w2).cell? ⟨w.heap.size,4,none⟩=some T.scrV:=(hbq).at_ 4 (by omega);have z5:(w2).cell? ⟨w.heap.size,5,none⟩=some T.staV:=(hbq).at_ 5 (by omega);have z6:(w2).cell? ⟨w.heap.size,6,none⟩=some T.ignV:=(hbq).at_ 6 (by omega);have z7:(w2).cell? ⟨w.heap.size,7,none⟩=some T.extV:=(hbq).at_ 7 (by omega);have z8:(w2).cell? ⟨w.heap.size,8,none⟩=some T.mapV:=(hbq).at_ 8 (by omega);have z9:(w2).cell? ⟨w.heap.size,9,none⟩=some T.decV:=(hbq).at_ 9 (by omega);have z10:(w2).cell? ⟨w.heap.size,10,none⟩=some T.excV:=(hbq).at_ 10 (by omega);have z11:(w2).cell? ⟨w.heap.size,11,none⟩=some T.proV:=(hbq).at_ 11 (by omega);go_wp2_with fail;go_cut [12,13] from 41 to 47 (fun o ev wx=>∃ y z:Int,o=.int .i64 y∧ev=.int .i64 z∧Ext w2 wx)
   case first =>
    rename_i J1 K1 hJ hM;go_region_with (go_at_call 201;refine(Ztc T Hf.o Hu.o _ l _ (H1.o.up (have hx:=Hx2.o;(by repeat' first|exact Yl _|assumption|apply Yk|apply Yj|apply Yi|(refine Yh ?_ (by assumption))|(refine Ya ?_ (by first|(simp;done)|(simp;omega)) _)))) (Hxk.o.ext (by repeat' first|exact Yl _|assumption|apply Yk|apply Yj|apply Yi|(refine Yh ?_ (by assumption))|(refine Ya ?_ (by first|(simp;done)|(simp;omega)) _)))).mono ?_;rintro e w7 ⟨y,z,rfl,hx7⟩);all_goals
     go_simp;refine hM _ _ (hJ _ _ ?_);(repeat apply Exists.intro)
     exact⟨⟨y,z,rfl,rfl,by first|exact hx7|exact(Yl _).drew.trans hx7|exact((Yl _).drewN _).trans hx7⟩,rfl⟩
   obtain⟨y,z,rfl,rfl,hxb⟩:=hcut;have Hx3:=Y4 (Hx2.o.trans hxb);have c0'':=(hxb.cell (p:=⟨g,o,none⟩) hg).trans c0';have Hx23:=Y4 hxb;clear z0 z1 z2 z3 z4 z5 z6 z7 z8 z9 z10 z11 c0' hxb hbq;by_cases hy:4<y
   ·have d1:decide (4<y)=true:=Yf hy;obtain⟨bl,fz,c0,c1,c2⟩:=HBZ.o.ext Hx3.o;go_wp2_with fail;refine Ys (v:=.tuple #[.agg #[.string ⟨#[]⟩,.string ⟨#[]⟩,.string ⟨#[]⟩],.int .i64 20]) (by simp[results,results191,go_sem, *]) rfl ⟨⟨#[]⟩,⟨#[]⟩,⟨#[]⟩,20,rfl,(by first|assumption|exact Zjn _),(by first|assumption|exact Zjn _),(by first|assumption|exact Zjn _),fun h=>absurd h (by decide),?_⟩;(repeat refine Ya ?_ Hbw.o _)
    exact HX0.o.trans Hx3.o
   have d1:decide (4<y)=false:=Yg hy;have hbq:=Hb1.o.ext Hx3.o;rename World=>w3
   have z0:(w3).cell? ⟨w.heap.size,0,none⟩=some T.catV:=(hbq).at_ 0 (by omega);have z1:(w3).cell? ⟨w.heap.size,1,none⟩=some T.clsV:=(hbq).at_ 1 (by omega);have z2:(w3).cell? ⟨w.heap.size,2,none⟩=some T.joiV:=(hbq).at_ 2 (by omega);have z3:(w3).cell? ⟨w.heap.size,3,none⟩=some T.bidV:=(hbq).at_ 3 (by omega);have z4:(w3).cell? ⟨w.heap.size,4,none⟩=some T.scrV:=(hbq).at_ 4 (by omega);have z5:(w3).cell? ⟨w.heap.size,5,none⟩=some T.staV:=(hbq).at_ 5 (by omega);have z6:(w3).cell? ⟨w.heap.size,6,none⟩=some T.ignV:=(hbq).at_ 6 (by omega);have z7:(w3).cell? ⟨w.heap.size,7,none⟩=some T.extV:=(hbq).at_ 7 (by omega);have z8:(w3).cell? ⟨w.heap.size,8,none⟩=some T.mapV:=(hbq).at_ 8 (by omega);have z9:(w3).cell? ⟨w.heap.size,9,none⟩=some T.decV:=(hbq).at_ 9 (by omega);have z10:(w3).cell? ⟨w.heap.size,10,none⟩=some T.excV:=(hbq).at_ 10 (by omega);have z11:(w3).cell? ⟨w.heap.size,11,none⟩=some T.proV:=(hbq).at_ 11 (by omega);go_wp2_with fail;go_cut [14,8] from 52 to 58 (fun o ev wx=>∃ (t:ByteArray) (z:Int),o=.string t∧ev=.int .i64 z∧t.size≤16384∧Ext w3 wx)
   case first =>
    rename_i J1 K1 hJ hM;go_region_with (go_at_call 202;refine(Zmt T Hf.o Hu.o _ l _ (H1.o.up (have hx:=Hx3.o;(by repeat' first|exact Yl _|assumption|apply Yk|apply Yj|apply Yi|(refine Yh ?_ (by assumption))|(refine Ya ?_ (by first|(simp;done)|(simp;omega)) _)))) (Hxk.o.ext (have hx:=Hx23.o;(by repeat' first|exact Yl _|assumption|apply Yk|apply Yj|apply Yi|(refine Yh ?_ (by assumption))|(refine Ya ?_ (by first|(simp;done)|(simp;omega)) _))))).mono ?_;rintro e w7 ⟨t,z,rfl,ht,hx7⟩);all_goals
     go_simp;refine hM _ _ (hJ _ _ ?_);(repeat apply Exists.intro)
     exact⟨⟨t,z,rfl,rfl,ht,by first|exact hx7|exact(Yl _).drew.trans hx7|exact((Yl _).drewN _).trans hx7⟩,rfl⟩
   obtain⟨t,z',rfl,rfl,ht,hxb⟩:=hcut;have Hx4:=Y4 (Hx3.o.trans hxb);clear z0 z1 z2 z3 z4 z5 z6 z7 z8 z9 z10 z11 c0'' hxb hbq;by_cases hz:z'=0
   ·subst hz;cases he:t.toList.isEmpty
    rotate_left
    ·obtain⟨bl,fz,c0,c1,c2⟩:=HBZ.o.ext Hx4.o;go_wp2_with fail;refine Ys (v:=.tuple #[.agg #[.string ⟨#[]⟩,.string ⟨#[]⟩,.string ⟨#[]⟩],.int .i64 10]) (by simp[results,results191,go_sem, *]) rfl ⟨⟨#[]⟩,⟨#[]⟩,⟨#[]⟩,10,rfl,(by first|assumption|exact Zjn _),(by first|assumption|exact Zjn _),(by first|assumption|exact Zjn _),fun h=>absurd h (by decide),?_⟩;(repeat refine Ya ?_ Hbw.o _)
     exact HX0.o.trans Hx4.o
    go_wp2_with (refine Xz (Hb1.o.ext Hx4.o) rfl ?_);refine(Rf T Hf.o Hu.o s _ (H1.o.up Hx4.o)).mono ?_;rintro e w8 ⟨t8,p8,x8,rfl,ht8,hx8⟩;have Hx8:=Y4 (Hx4.o.trans hx8);clear hx8;obtain⟨bl,fz,c0,c1,c2⟩:=HBZ.o.ext Hx8.o;go_wp2_with fail;refine Ys (v:=.tuple #[.agg #[.string a,.string t8,.string t],.int .i64 0]) (by simp[results,results191,go_sem, *]) rfl ⟨a,t8,t,0,rfl,(by first|assumption|exact Zjn _),(by first|assumption|exact Zjn _),(by first|assumption|exact Zjn _),fun _=>HA.o,?_⟩;(repeat refine Ya ?_ Hbw.o _)
    exact HX0.o.trans Hx8.o
   have hzb:(!(z'==0))=true:=by simp[hz]
   have hzc:(z' !=0)=true:=hzb;have hzd:(z'==0)=false:=by simp[hz]
   have hzH:=Y4 hz;clear hz;obtain⟨bl,fz,c0,c1,c2⟩:=HBZ.o.ext Hx4.o;go_wp2_with fail;refine Ys (v:=.tuple #[.agg #[.string ⟨#[]⟩,.string ⟨#[]⟩,.string ⟨#[]⟩],.int .i64 z']) (by simp[results,results191,go_sem, *]) rfl ⟨⟨#[]⟩,⟨#[]⟩,⟨#[]⟩,z',rfl,(by first|assumption|exact Zjn _),(by first|assumption|exact Zjn _),(by first|assumption|exact Zjn _),fun h=>absurd h hzH.o,?_⟩;(repeat refine Ya ?_ Hbw.o _)
   exact HX0.o.trans Hx4.o
  have d1:(!((n:Int)==1))=true:=by simp;omega
  have d2:((n:Int)!=1)=true:=d1;have d3:(!(n==1))=true:=by simp;omega
  have d4:(n !=1)=true:=d3;have d5:¬ (n:Int)=1:=by omega
  obtain⟨bl,fz,c0,c1,c2⟩:=HBZ.o.ext Hx2.o;go_wp2_with fail;refine Ys (v:=.tuple #[.agg #[.string ⟨#[]⟩,.string ⟨#[]⟩,.string ⟨#[]⟩],.int .i64 21]) (by simp[results,results191,go_sem, *]) rfl ⟨⟨#[]⟩,⟨#[]⟩,⟨#[]⟩,21,rfl,(by first|assumption|exact Zjn _),(by first|assumption|exact Zjn _),(by first|assumption|exact Zjn _),fun h=>absurd h (by decide),?_⟩;(repeat refine Ya ?_ Hbw.o _)
  exact HX0.o.trans Hx2.o
 have h0b:(!(x==0))=true:=by simp[h0]
 have h0c:(x !=0)=true:=h0b;have h0d:(x==0)=false:=by simp[h0]
 have h0H:=Y4 h0;clear h0;obtain⟨bl,fz,c0,c1,c2⟩:=HBZ.o.ext Hx1.o;go_wp2_with fail;refine Ys (v:=.tuple #[.agg #[.string ⟨#[]⟩,.string ⟨#[]⟩,.string ⟨#[]⟩],.int .i64 x]) (by simp[results,results191,go_sem, *]) rfl ⟨⟨#[]⟩,⟨#[]⟩,⟨#[]⟩,x,rfl,(by first|assumption|exact Zjn _),(by first|assumption|exact Zjn _),(by first|assumption|exact Zjn _),fun h=>absurd h h0H.o,?_⟩;(repeat refine Ya ?_ Hbw.o _)
 exact HX0.o.trans Hx1.o
