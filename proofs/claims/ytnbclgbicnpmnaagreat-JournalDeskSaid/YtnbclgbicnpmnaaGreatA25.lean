/- Lemmas of this claim: Sc, Rf2, Sd, Mk. Conditions: as named. -/
import Derived.Test.YtnbclgbicnpmnaaGreatA24
namespace Go.Proofs.YtnbclgbicnpmnaaGreat
open Go.RowKit Go.Sort Go.Proofs.Tryz
set_option maxHeartbeats 0
set_option maxRecDepth 100000
set_option linter.all false
theorem Zqt{S S':Nat→Prop}(T:Tbl)(hf:Few T)(hu:Uq T)(v:Value)(l:List Int)(w:World)(h:Xg w S T)(hl:Xw w S' v l):Calls prog 201 #[Vg T,v] w (Mn w):=by
 obtain⟨A,C,rfl,hlCC,hCC⟩:=hl.shape;obtain⟨n,hnn⟩:=gnX ((l).length);have Hnn:=Y8 hnn;have Hhl:=Y8 hl;unfold maxLen at hCC;rw[hnn]at hlCC⊢;clear hl hnn;obtain⟨X0,H,Hb0⟩:=tblX h;clear h;have HL:=intX Hhl Hnn X0;have Hf:=Y8 hf;have Hu:=Y8 hu;clear hf hu;go_enter func201,ntmps201;go_wp2_with (first|(refine Xv rfl ?_)|(refine Xy Hb0.o rfl ?_));refine(V0 T Hf.o Hu.o _ l _ H.o HL.o).mono ?_;rintro e w1 ⟨x,rfl,_,hx1⟩;have Hx1:=Y8 hx1;clear hx1;by_cases h0:x=0
 ·subst h0;go_wp2_with fail;go_loopw [21,7,8] (fun o u k wr=>∃ (i:Nat) (q r:Bool),i≤n∧o=.int .i64 (i:Int)∧u=.bool q∧k=.bool r∧Ext (w.alloc (Wz T)) wr) (fun o _ _ _=>n-(intOf o).toNat);case atStart=>exact⟨0,true,true,by omega,rfl,rfl,rfl,Hx1.o⟩
  clear Hx1;obtain⟨i,q,r,hi,rfl,rfl,rfl,hx⟩:=hrel;have Hx:=Y8 hx;clear hx;by_cases hlt:i<n
  ·obtain⟨hd_i,i0_i,i1_i⟩:=LTl i n;obtain⟨c,hs_c⟩:=geX (l:=(l)) (i:=i) (by have:=Hnn.o;omega);obtain⟨g_c,o_c,c_c,hvv,_,_,_,hgl_c,a0_c⟩:=(HL.o.ext Hx.o).get hs_c;obtain⟨rfl,-,rfl⟩:=slcX hvv;clear hvv;have Hs_c:=Y8 hs_c;clear hs_c;cases q<;>cases r
   ·go_wp2_with fail;go_roundw;case rel=>exact⟨i+1,_,_,by omega,by go_num,rfl,rfl,Hx.o⟩
    (simp[intOf];omega)
   ·go_wp2_with (refine Wp (Hb0.o.ext Hx.o) (by go_simp) rfl ?_);refine(Da T Hf.o _ _ (H.o.up Hx.o)).mono ?_;rintro e w2 ⟨z,rfl,hx2⟩;go_wp2_with fail;go_roundw;case rel=>exact⟨i+1,_,_,by omega,by go_num,rfl,rfl,Hx.o.trans hx2⟩
    (simp[intOf];omega)
   ·go_wp2_with fail;go_roundw;case rel=>exact⟨i+1,_,_,by omega,by go_num,rfl,rfl,Hx.o⟩
    (simp[intOf];omega)
   go_wp2_with (refine Wp (Hb0.o.ext Hx.o) (by go_simp) rfl ?_);refine(Da T Hf.o _ _ (H.o.up Hx.o)).mono ?_;rintro e w2 ⟨z,rfl,hx2⟩;go_wp2_with fail;go_roundw;case rel=>exact⟨i+1,_,_,by omega,by go_num,rfl,rfl,Hx.o.trans hx2⟩
   (simp[intOf];omega)
  have hd_i:=GEl i n;cases q
  rotate_left
  ·go_wp2_with fail;go_ret2;exact⟨_,_,rfl,X0.o.trans Hx.o⟩
  go_wp2_with (refine Xy (Hb0.o.ext Hx.o) rfl ?_);refine(Zu5 T Hf.o Hu.o _ l _ (H.o.up Hx.o) (HL.o.ext Hx.o)).mono ?_;rintro e w2 ⟨b,rfl,hx2⟩;have Hx2:=Y8 (Hx.o.trans hx2);clear hx2 Hx hlt hd_i hi;cases b
  rotate_left
  ·go_wp2_with fail;go_ret2;exact⟨_,_,rfl,X0.o.trans Hx2.o⟩
  go_wp2_with fail;go_loopw [11] (fun o wr=>∃ k:Nat,61≤k∧k≤64∧o=.int .i64 (k:Int)∧Ext (w.alloc (Wz T)) wr) (fun o _=>64-(intOf o).toNat);case atStart=>exact⟨61,by omega,by omega,rfl,Hx2.o⟩
  clear Hx2;obtain⟨k,hk1,hk2,rfl,hx⟩:=hrel;have Hx:=Y8 hx;clear hx;by_cases hlt:k≤63
  ·have hd:decide ((k:Int)≤63)=true:=Ye;go_wp2_with (refine Xy (Hb0.o.ext Hx.o) rfl ?_);refine(Mc T Hf.o Hu.o _ l _ _ (H.o.up Hx.o) (HL.o.ext Hx.o)).mono ?_;rintro e w3 ⟨b,rfl,hx3⟩;cases b
   ·go_wp2_with fail;go_roundw;case rel=>exact⟨k+1,by omega,by omega,by go_num,Hx.o.trans hx3⟩
    (simp[intOf];omega)
   go_wp2_with fail;go_ret2;exact⟨_,_,rfl,X0.o.trans (Hx.o.trans hx3)⟩
  have hd:decide ((k:Int)≤63)=false:=Yf;go_wp2_with fail;have Hx2:=Y8 Hx.o;clear Hx hlt hd;go_loopw [12] (fun o wr=>∃ k:Nat,3≤k∧k≤61∧o=.int .i64 (k:Int)∧Ext (w.alloc (Wz T)) wr) (fun o _=>61-(intOf o).toNat);case atStart=>exact⟨3,by omega,by omega,rfl,Hx2.o⟩
  clear Hx2;obtain⟨k,hk1,hk2,rfl,hx⟩:=hrel;have Hx:=Y8 hx;clear hx;by_cases hlt:k≤60
  ·have hd:decide ((k:Int)≤60)=true:=Ye;rcases(show k=3∨k=4∨k=5∨6≤k by omega)with rfl|rfl|rfl|h6
   ·go_wp2_with fail;go_roundw;case rel=>exact⟨4,by omega,by omega,rfl,Hx.o⟩
    (simp[intOf])
   ·go_wp2_with fail;go_roundw;case rel=>exact⟨5,by omega,by omega,rfl,Hx.o⟩
    (simp[intOf])
   ·go_wp2_with fail;go_roundw;case rel=>exact⟨6,by omega,by omega,rfl,Hx.o⟩
    (simp[intOf])
   have c1:¬ (k:Int)=4:=by omega
   have c2:¬ (k:Int)=5:=by omega
   have c3:¬ (k:Int)=3:=by omega
   have c4:((k:Int)!=4)=true:=by simp;omega
   have c5:((k:Int)!=5)=true:=by simp;omega
   have c6:((k:Int)!=3)=true:=by simp;omega
   go_wp2_with (refine Wp (Hb0.o.ext Hx.o) (by go_simp) rfl ?_);refine(Mc T Hf.o Hu.o _ l _ _ (H.o.up Hx.o) (HL.o.ext Hx.o)).mono ?_;rintro e w3 ⟨b,rfl,hx3⟩;cases b
   ·go_wp2_with fail;go_roundw;case rel=>exact⟨k+1,by omega,by omega,by go_num,Hx.o.trans hx3⟩
    (simp[intOf];omega)
   go_wp2_with fail;go_ret2;exact⟨_,_,rfl,X0.o.trans (Hx.o.trans hx3)⟩
  have hd:decide ((k:Int)≤60)=false:=Yf;cases r
  all_goals
   go_wp2_with fail;go_ret2;exact⟨_,_,rfl,X0.o.trans Hx.o⟩
 have h0b:(!(x==0))=true:=by simp[h0]
 have h0c:(x !=0)=true:=h0b;have h0d:(x==0)=false:=by simp[h0]
 have h0H:=Y8 h0;clear h0;go_wp2_with fail;go_ret2;exact⟨_,_,rfl,X0.o.trans Hx1.o⟩
def Zsu(N:Nat)(w:World)(e:Ending)(w':World):Prop:=∃ (s:ByteArray) (p x:Int),e=.returned (.tuple #[.string s,.int .i64 p,.int .i64 x])∧s.size≤N∧Ext w w'
def Ztg(K N:Nat)(w:World)(e:Ending)(w':World):Prop:=∃ (s:ByteArray) (p x:Int),e=.returned (.tuple #[.string s,.int .i64 p,.int .i64 x])∧s.size≤N∧(x=0→K=1→1≤s.size∧s.size≤63)∧Ext w w'
theorem Zz3{K N:Nat}{w w':World}(p x:Int)(hx:x≠0)(h:Ext w w'):Ztg K N w (.returned (.tuple #[.string ⟨#[]⟩,.int .i64 p,.int .i64 x])) w':=⟨_,p,x,rfl,Zgf _,fun e=>absurd e hx,h⟩
theorem Zm6{l:List ByteArray}{t:ByteArray}{n K:Nat}(hc:clE l=0)(ht:clE l=0→∀ x,l=[x]→t.size=x.size)(hl:l.length=n)(hn:n=0∨n=K)(h63:∀ s∈l,s.size≤63)(hK:K=1):1≤t.size∧t.size≤63:=by
 obtain⟨h0,h1⟩:=Zjl hc;obtain⟨x,rfl⟩:∃ x,l=[x]:=List.length_eq_one_iff.1 (by omega);rw[ht hc x rfl];exact⟨h1 x (by simp),h63 x (by simp)⟩
theorem Zid{N:Nat}{w w':World}(p x:Int)(h:Ext w w'):Zsu N w (.returned (.tuple #[.string ⟨#[]⟩,.int .i64 p,.int .i64 x])) w':=⟨_,p,x,rfl,Zgf _,h⟩
theorem Zlf(w:World)(s:ByteArray)(t:TypeId)(g:Nat)(hg:w.heap.size=g):RdE Vm (w.alloc (.cells #[.string s] t)) (fun _=>True) (.slice (some ⟨g,0,none⟩) 1 1) [s]:=by
 subst hg;have h1:(w.alloc (.cells #[.string s] t)).heap[w.heap.size]?=some (.cells #[.string s] t):=Zg3 w _;refine⟨rfl,_,_,rfl,Ym _,by unfold maxLen;show 1≤_;omega,fun _=>⟨_,_,rfl,trivial,(Zgk.1 h1).1,fun j u hu=>?_⟩⟩;simp only[World.cell?,h1];rw[Zg7,← hu];show _=([Value.string s]:List Value)[j]?;simp
theorem Px{S:Nat→Prop}(T:Tbl)(hf:Few T)(hu:Uq T)(s:ByteArray)(w:World)(h:Xg w S T):Calls prog 199 #[Vg T,.string s] w (Ztg (Zgz T s) 400000 w):=by
 obtain⟨X0,H,Hb0⟩:=tblX h;clear h;have Hf:=Y8 hf;have Hu:=Y8 hu;clear hf hu;go_enter func199,ntmps199;go_wp2_with (first|(refine Xv rfl ?_)|(refine Xy Hb0.o rfl ?_));refine(Ej T Hf.o Hu.o s _ H.o).mono ?_;rintro e w1 ⟨v,ls,p,x,rfl,hls,⟨hlen,hnl⟩,hmem,hx1⟩;have Hx1:=Y8 hx1;clear hx1;by_cases h0:x=0
 ·subst h0;obtain⟨A,C,rfl,hlC,hC⟩:=hls.shape;obtain⟨n,hnn⟩:=gnX (ls.length);have Hh:=Y8 hls;rw[hnn]at hlC hlen hnl⊢;have Hnl:=Y8 hnl;clear hnl;have Hnn:=Y8 hnn;have Hmem:=Y8 hmem;obtain⟨B,hB⟩:=gnX (w1.heap.size);have HB:=Y8 hB;unfold maxLen at hC;clear hls hnn hmem hB;go_wp2_with fail;go_loopw [32,10] (fun o u wr=>∃ (i:Nat) (ss:List ByteArray),i≤n∧o=.int .i64 (i:Int)∧Own Vm wr B u ss∧ss.length=i∧(∀ s∈ss,s.size≤63)∧Ext w1 wr) (fun o _ _=>n-(intOf o).toNat);case atStart=>exact⟨0,[],by omega,rfl,Own.nil _ _ _,by simp,by simp,Yk _⟩
  obtain⟨i,ss,hi,rfl,ho,hsl,hss,hx⟩:=hrel;obtain⟨A2,C2,rfl,hlC2,hC2⟩:=ho.shape;obtain⟨m,hm⟩:=gnX (ss.length);have hoI:Own Vm wr B (.slice A2 m C2) ss:=by rw[← hm];exact ho
  rw[hm]at hlC2 hsl⊢;have Hsl:=Y8 hsl;replace hsl:m≤i:=by omega
  have Hx:=Y8 hx;have Ho:=Y8 hoI;have Hm:=Y8 hm;have Hss:=Y8 hss;have hBw:B≤wr.heap.size:=by rw[← HB.o];exact hx.size
  unfold maxLen at hC2;clear hx ho hoI hm hss;by_cases hlt:i<n
  ·obtain⟨hd_i,i0_i,i1_i⟩:=LTl i n;obtain⟨x,hx0⟩:=geX (l:=ls) (i:=i) (by rw[Hnn.o];exact hlt);obtain⟨g,o,c,u,hv,_,_,hg,c0,hxu⟩:=Hh.o.get hx0;obtain⟨rfl,-,rfl⟩:=slcX hv;clear hv;replace c0:=(Hx.o.cell (p:=⟨g,o+i,none⟩) hg).trans c0;have Hxu:=Y8 hxu;have hxl:=Hmem.o x (Zy hx0);clear hxu hx0;go_wp2_with fail;refine(Ia _ x _ (Hxu.o.ext Hx.o) (by omega)).mono ?_;rintro e w2 ⟨t,y,rfl,ht,_,hx2⟩;have Hx2:=Y8 (Hx.o.trans hx2);have Ho2:=Y8 (Ho.o.ext hx2);have hs2:=hx2.size;clear hx2;by_cases hy:y=0
   ·subst hy;go_wp2_with (at_builtin;refine Xt Vm _ _ _ rfl rfl rfl rfl (Ho2.o.ext ((Yk _).alloc _)) rfl (Zlf w2 t _ _ rfl) (by rw[Hm.o];show m+1≤_;omega) (by show 16≤1000;omega) (by simp;omega) ?_;intro A5 n5 c5 w5 hg5;have Hx5:=Y8 (hg5.ext w1 (Hx2.o.alloc _) (by rw[HB.o];exact Ym _));have Hg5:=Y8 hg5;clear hg5);go_roundw;case rel =>
     refine⟨i+1,_,by omega,by go_num,Hg5.o.own,by rw[Zs,Hm.o];show m+1=_;have:=Hsl.o;omega,fun s hs=>?_,Hx5.o⟩;rcases Zj.1 hs with h1|h1
     ·exact Hss.o s h1
     rw[Zi.1 h1];exact ht
    case measure=>(simp[intOf];omega)
   have hyb:(!(y==0))=true:=by simp[hy]
   have hyc:(y !=0)=true:=hyb;have hyd:(y==0)=false:=by simp[hy]
   have hyH:=Y8 hy;clear hy;go_wp2_with fail;go_ret3;exact Zz3 _ _ hyH.o (X0.o.trans (Hx1.o.trans Hx2.o))
  have hd_i:=GEl i n;go_wp2_with fail;refine(Gp _ ss _ (show RdE Vm wr _ (.slice A2 m C2) ss by have:=Ho.o.rd;rw[← Hm.o]at this⊢;exact this) (by rw[Hm.o];omega) Hss.o).mono ?_;rintro e w2 ⟨y,rfl,hx2⟩;obtain⟨z,hze⟩:=gnX (clE ss);rw[hze];have Hze:=Y8 hze;clear hze;have Hx2:=Y8 (Hx.o.trans hx2);have Ho2:=Y8 (Ho.o.ext hx2);clear hx2;by_cases hz:z=0
  ·subst hz;go_wp2_with fail;refine(Zum _ ss _ (show RdE Vm w2 _ (.slice A2 m C2) ss by have:=Ho2.o.rd;rw[← Hm.o]at this⊢;exact this) (by rw[Hm.o];omega) Hss.o).mono ?_;rintro e w3 ⟨t,y3,rfl,ht,ht1,hx3⟩;have Ht1:=Y8 ht1;clear ht1;go_wp2_with fail;go_ret3;exact⟨t,_,_,rfl,ht,fun _ hK=>Zm6 Hze.o Ht1.o Hm.o (by have:=Hnl.o;have:=Hsl.o;omega) Hss.o hK,X0.o.trans (Hx1.o.trans (Hx2.o.trans hx3))⟩
  have hzb:(!(z==0))=true:=by simp[hz]
  have hzc:(z !=0)=true:=hzb;have hzd:(z==0)=false:=by simp[hz]
  have hzH:=Y8 hz;clear hz;go_wp2_with fail;go_ret3;exact Zz3 _ _ hzH.o (X0.o.trans (Hx1.o.trans Hx2.o))
 have h0b:(!(x==0))=true:=by simp[h0]
 have h0c:(x !=0)=true:=h0b;have h0d:(x==0)=false:=by simp[h0]
 have h0H:=Y8 h0;clear h0;go_wp2_with fail;go_ret3;exact Zz3 _ _ h0H.o (X0.o.trans Hx1.o)
theorem Tl{S:Nat→Prop}(T:Tbl)(hf:Few T)(hu:Uq T)(s:ByteArray)(w:World)(h:Xg w S T):Calls prog 203 #[Vg T,.string s] w (Zsu 100000000 w):=by
 obtain⟨X0,H,Hb0⟩:=tblX h;clear h;have Hf:=Y8 hf;have Hu:=Y8 hu;clear hf hu;go_enter func203,ntmps203;go_wp2_with (first|(refine Xv rfl ?_)|(refine Xy Hb0.o rfl ?_));refine(Px T Hf.o Hu.o s _ H.o).mono ?_;rintro e w1 ⟨t,p,x,rfl,_,_,hx1⟩;have Hx1:=Y8 hx1;clear hx1;by_cases h0:x=0
 ·subst h0;go_wp2_with (refine Xy (Hb0.o.ext Hx1.o) rfl ?_);refine(Ej T Hf.o Hu.o s _ (H.o.up Hx1.o)).mono ?_;rintro e w2 ⟨v,ls,p2,x2,rfl,hls,⟨hlen,_⟩,hmem,hx2⟩;have Hx2:=Y8 (Hx1.o.trans hx2);clear hx2;go_wp2_with fail;refine(Zms v ls _ hls hlen hmem).mono ?_;rintro e w3 ⟨u,l,rfl,hl,hl3,hx3⟩;have Hx3:=Y8 (Hx2.o.trans hx3);clear hx3;go_wp2_with fail;refine(Fx u l _ hl).mono ?_;rintro e w4 ⟨t4,x4,rfl,ht4,hx4⟩;go_wp2_with fail;go_ret3;exact⟨t4,_,_,rfl,by omega,X0.o.trans (Hx3.o.trans hx4)⟩
 have h0b:(!(x==0))=true:=by simp[h0]
 have h0c:(x !=0)=true:=h0b;have h0d:(x==0)=false:=by simp[h0]
 have h0H:=Y8 h0;clear h0;go_wp2_with fail;go_ret3;exact Zid _ _ (X0.o.trans Hx1.o)
def Zte(w:World)(e:Ending)(w':World):Prop:=∃ (a u k:ByteArray) (x:Int),e=.returned (.tuple #[.agg #[.string a,.string u,.string k],.int .i64 x])∧a.size≤400000∧u.size≤100000000∧k.size≤16384∧(x=0→1≤a.size∧a.size≤63)∧Ext w w'
structure BZ(w:World)(b:Nat):Prop where
 lt:b<w.heap.size
 fz:∀ i,w.frozen? ⟨b,i,none⟩=false
 c0:w.cell? ⟨b,0,none⟩=some (.string ⟨#[]⟩)
 c1:w.cell? ⟨b,1,none⟩=some (.string ⟨#[]⟩)
 c2:w.cell? ⟨b,2,none⟩=some (.string ⟨#[]⟩)
theorem BZ.ext{w w':World}{b:Nat}(h:BZ w b)(x:Ext w w'):BZ w' b :=
 ⟨Zgp h.lt x.size,fun i=>(x.frozen (p:=⟨b,i,none⟩) h.lt).trans (h.fz i),(x.cell (p:=⟨b,0,none⟩) h.lt).trans h.c0,(x.cell (p:=⟨b,1,none⟩) h.lt).trans h.c1,(x.cell (p:=⟨b,2,none⟩) h.lt).trans h.c2⟩
theorem Zhs(w:World)(t:TypeId)(b:Nat)(hb:w.heap.size=b):BZ (w.alloc (.cells #[.string ⟨#[]⟩,.string ⟨#[]⟩,.string ⟨#[]⟩] t)) b:=by
 subst hb;exact⟨by simp,fun i=>by go_simp,by go_simp,by go_simp,by go_simp⟩
theorem Zsc{S:Nat→Prop}(T:Tbl)(hf:Few T)(hu:Uq T)(s:ByteArray)(w:World)(h:Xg w S T):Calls prog 191 #[Vg T,.string s] w (Zte w):=by
 obtain⟨X0,H,Hb0⟩:=tblX h;clear h;have Hf:=Y8 hf;have Hu:=Y8 hu;clear hf hu;go_enter func191,ntmps191;go_wp2_with (first|(refine Xv rfl ?_)|(refine Xy (Hb0.o.ext ((Yk _).alloc _)) rfl ?_));have hbz:=Zhs (w.alloc (Wz T)) 109 (w.heap.size+1) (by simp);have hx0:=X0.o.alloc (.cells #[.string ⟨#[]⟩,.string ⟨#[]⟩,.string ⟨#[]⟩] 109);have h01:=(Yk (w.alloc (Wz T))).alloc (.cells #[.string ⟨#[]⟩,.string ⟨#[]⟩,.string ⟨#[]⟩] 109);obtain⟨W0,hW0⟩:=gnX ((w.alloc (Wz T)).alloc (.cells #[.string ⟨#[]⟩,.string ⟨#[]⟩,.string ⟨#[]⟩] 109));rw[hW0]at hbz hx0 h01⊢;obtain⟨b,hb⟩:=gnX (w.heap.size+1);rw[hb]at hbz⊢;have HX0:=Y8 hx0;have H1:=Y8 (H.o.up h01);have Hb1:=Y8 (Hb0.o.ext h01);have HBZ:=Y8 hbz;have hbw:w.heap.size≤b:=by omega
 have Hbw:=Y8 hbw;clear hbz hx0 h01 hW0 hb hbw X0 H Hb0;refine(Px T Hf.o Hu.o s _ H1.o).mono ?_;rintro e w1 ⟨a,p,x,rfl,hal,ha1,hx1⟩;have Ha1:=Y8 ha1;clear ha1;have Hx1:=Y8 hx1;clear hx1;by_cases h0:x=0
 ·subst h0;go_wp2_with (refine Xy (Hb1.o.ext Hx1.o) rfl ?_);refine(Ej T Hf.o Hu.o s _ (H1.o.up Hx1.o)).mono ?_;rintro e w2 ⟨v,ls,p2,x2,rfl,hls,⟨hlen,hnl⟩,hmem,hx2⟩;have Hx2:=Y8 (Hx1.o.trans hx2);clear hx2 Hx1;obtain⟨A,C,rfl,hlC,hC⟩:=hls.shape;obtain⟨n,hnn⟩:=gnX (ls.length);have Hh:=Y8 (show Zvq w2 (.slice A n C) ls by rw[← hnn];exact hls);rw[hnn]at hlC hlen hnl⊢;have Hnl:=Y8 hnl;clear hnl;have Hnn:=Y8 hnn;have Hmem:=Y8 hmem;clear hls hnn hmem hC;by_cases hn1:n=1
  ·subst hn1;have HA:=Y8 (show 1≤a.size∧a.size≤63 from Ha1.o (by first|exact True.intro|rfl) (by have:=Hnl.o;omega));obtain⟨l,hl0⟩:=geX (l:=ls) (i:=0) (by rw[Hnn.o];omega);obtain⟨g,o,c,u,hv,_,_,hg,c0',hxu⟩:=Hh.o.get hl0;rw[Hnn.o]at hv;obtain⟨rfl,-,rfl⟩:=slcX hv;clear hv;rw[Zfu]at c0';have hll:=Hmem.o l (Zy hl0);obtain⟨A3,C3,rfl,hl3,hc3⟩:=hxu.shape;have Hxu:=Y8 hxu;obtain⟨k,hk⟩:=gnX (l.length);have Hxk:=Y8 (show Xw w2 (fun _=>True) (.slice A3 k C3) l by rw[← hk];exact hxu);rw[hk]at c0';clear hxu hl0 hk Hh;have hbq:=Hb1.o.ext Hx2.o;have z0:(w2).cell? ⟨w.heap.size,0,none⟩=some T.catV:=(hbq).at_ 0 (by omega);have z1:(w2).cell? ⟨w.heap.size,1,none⟩=some T.clsV:=(hbq).at_ 1 (by omega);have z2:(w2).cell? ⟨w.heap.size,2,none⟩=some T.joiV:=(hbq).at_ 2 (by omega);have z3:(w2).cell? ⟨w.heap.size,3,none⟩=some T.bidV:=(hbq).at_ 3 (by omega);have z4:(w2).cell? ⟨w.heap.size,4,none⟩=some T.scrV:=(hbq).at_ 4 (by omega);have z5:(w2).cell? ⟨w.heap.size,5,none⟩=some T.staV:=(hbq).at_ 5 (by omega);have z6:(w2).cell? ⟨w.heap.size,6,none⟩=some T.ignV:=(hbq).at_ 6 (by omega);have z7:(w2).cell? ⟨w.heap.size,7,none⟩=some T.extV:=(hbq).at_ 7 (by omega);have z8:(w2).cell? ⟨w.heap.size,8,none⟩=some T.mapV:=(hbq).at_ 8 (by omega);have z9:(w2).cell? ⟨w.heap.size,9,none⟩=some T.decV:=(hbq).at_ 9 (by omega);have z10:(w2).cell? ⟨w.heap.size,10,none⟩=some T.excV:=(hbq).at_ 10 (by omega);have z11:(w2).cell? ⟨w.heap.size,11,none⟩=some T.proV:=(hbq).at_ 11 (by omega);go_wp2_with fail;go_cut [12,13] from 41 to 47 (fun o ev wx=>∃ y z:Int,o=.int .i64 y∧ev=.int .i64 z∧Ext w2 wx)
   case first =>
    rename_i J1 K1 hJ hM;go_region_with (go_at_call 201;refine(Zqt T Hf.o Hu.o _ l _ (H1.o.up (have hx:=Hx2.o;(by repeat' first|exact Yk _|assumption|apply Yj|apply Yi|apply Yh|(refine Yg ?_ (by assumption))|(refine Y0 ?_ (by first|(simp;done)|(simp;omega)) _)))) (Hxk.o.ext (by repeat' first|exact Yk _|assumption|apply Yj|apply Yi|apply Yh|(refine Yg ?_ (by assumption))|(refine Y0 ?_ (by first|(simp;done)|(simp;omega)) _)))).mono ?_;rintro e w7 ⟨y,z,rfl,hx7⟩);all_goals
     go_simp;refine hM _ _ (hJ _ _ ?_);(repeat apply Exists.intro)
     exact⟨⟨y,z,rfl,rfl,by first|exact hx7|exact(Yk _).drew.trans hx7|exact((Yk _).drewN _).trans hx7⟩,rfl⟩
   obtain⟨y,z,rfl,rfl,hxb⟩:=hcut;have Hx3:=Y8 (Hx2.o.trans hxb);have c0'':=(hxb.cell (p:=⟨g,o,none⟩) hg).trans c0';have Hx23:=Y8 hxb;clear z0 z1 z2 z3 z4 z5 z6 z7 z8 z9 z10 z11 c0' hxb hbq;by_cases hy:4<y
   ·have d1:decide (4<y)=true:=Ye hy;obtain⟨bl,fz,c0,c1,c2⟩:=HBZ.o.ext Hx3.o;go_wp2_with fail;refine Ys (v:=.tuple #[.agg #[.string ⟨#[]⟩,.string ⟨#[]⟩,.string ⟨#[]⟩],.int .i64 20]) (by simp[results,results191,go_sem, *]) rfl ⟨⟨#[]⟩,⟨#[]⟩,⟨#[]⟩,20,rfl,(by first|assumption|exact Zgf _),(by first|assumption|exact Zgf _),(by first|assumption|exact Zgf _),fun h=>absurd h (by decide),?_⟩;(repeat refine Y0 ?_ Hbw.o _)
    exact HX0.o.trans Hx3.o
   have d1:decide (4<y)=false:=Yf hy;have hbq:=Hb1.o.ext Hx3.o;rename World=>w3
   have z0:(w3).cell? ⟨w.heap.size,0,none⟩=some T.catV:=(hbq).at_ 0 (by omega);have z1:(w3).cell? ⟨w.heap.size,1,none⟩=some T.clsV:=(hbq).at_ 1 (by omega);have z2:(w3).cell? ⟨w.heap.size,2,none⟩=some T.joiV:=(hbq).at_ 2 (by omega);have z3:(w3).cell? ⟨w.heap.size,3,none⟩=some T.bidV:=(hbq).at_ 3 (by omega);have z4:(w3).cell? ⟨w.heap.size,4,none⟩=some T.scrV:=(hbq).at_ 4 (by omega);have z5:(w3).cell? ⟨w.heap.size,5,none⟩=some T.staV:=(hbq).at_ 5 (by omega);have z6:(w3).cell? ⟨w.heap.size,6,none⟩=some T.ignV:=(hbq).at_ 6 (by omega);have z7:(w3).cell? ⟨w.heap.size,7,none⟩=some T.extV:=(hbq).at_ 7 (by omega);have z8:(w3).cell? ⟨w.heap.size,8,none⟩=some T.mapV:=(hbq).at_ 8 (by omega);have z9:(w3).cell? ⟨w.heap.size,9,none⟩=some T.decV:=(hbq).at_ 9 (by omega);have z10:(w3).cell? ⟨w.heap.size,10,none⟩=some T.excV:=(hbq).at_ 10 (by omega);have z11:(w3).cell? ⟨w.heap.size,11,none⟩=some T.proV:=(hbq).at_ 11 (by omega);go_wp2_with fail;go_cut [14,8] from 52 to 58 (fun o ev wx=>∃ (t:ByteArray) (z:Int),o=.string t∧ev=.int .i64 z∧t.size≤16384∧Ext w3 wx)
   case first =>
    rename_i J1 K1 hJ hM;go_region_with (go_at_call 202;refine(Zj0 T Hf.o Hu.o _ l _ (H1.o.up (have hx:=Hx3.o;(by repeat' first|exact Yk _|assumption|apply Yj|apply Yi|apply Yh|(refine Yg ?_ (by assumption))|(refine Y0 ?_ (by first|(simp;done)|(simp;omega)) _)))) (Hxk.o.ext (have hx:=Hx23.o;(by repeat' first|exact Yk _|assumption|apply Yj|apply Yi|apply Yh|(refine Yg ?_ (by assumption))|(refine Y0 ?_ (by first|(simp;done)|(simp;omega)) _))))).mono ?_;rintro e w7 ⟨t,z,rfl,ht,hx7⟩);all_goals
     go_simp;refine hM _ _ (hJ _ _ ?_);(repeat apply Exists.intro)
     exact⟨⟨t,z,rfl,rfl,ht,by first|exact hx7|exact(Yk _).drew.trans hx7|exact((Yk _).drewN _).trans hx7⟩,rfl⟩
   obtain⟨t,z',rfl,rfl,ht,hxb⟩:=hcut;have Hx4:=Y8 (Hx3.o.trans hxb);clear z0 z1 z2 z3 z4 z5 z6 z7 z8 z9 z10 z11 c0'' hxb hbq;by_cases hz:z'=0
   ·subst hz;cases he:t.toList.isEmpty
    rotate_left
    ·obtain⟨bl,fz,c0,c1,c2⟩:=HBZ.o.ext Hx4.o;go_wp2_with fail;refine Ys (v:=.tuple #[.agg #[.string ⟨#[]⟩,.string ⟨#[]⟩,.string ⟨#[]⟩],.int .i64 10]) (by simp[results,results191,go_sem, *]) rfl ⟨⟨#[]⟩,⟨#[]⟩,⟨#[]⟩,10,rfl,(by first|assumption|exact Zgf _),(by first|assumption|exact Zgf _),(by first|assumption|exact Zgf _),fun h=>absurd h (by decide),?_⟩;(repeat refine Y0 ?_ Hbw.o _)
     exact HX0.o.trans Hx4.o
    go_wp2_with (refine Xy (Hb1.o.ext Hx4.o) rfl ?_);refine(Tl T Hf.o Hu.o s _ (H1.o.up Hx4.o)).mono ?_;rintro e w8 ⟨t8,p8,x8,rfl,ht8,hx8⟩;have Hx8:=Y8 (Hx4.o.trans hx8);clear hx8;obtain⟨bl,fz,c0,c1,c2⟩:=HBZ.o.ext Hx8.o;go_wp2_with fail;refine Ys (v:=.tuple #[.agg #[.string a,.string t8,.string t],.int .i64 0]) (by simp[results,results191,go_sem, *]) rfl ⟨a,t8,t,0,rfl,(by first|assumption|exact Zgf _),(by first|assumption|exact Zgf _),(by first|assumption|exact Zgf _),fun _=>HA.o,?_⟩;(repeat refine Y0 ?_ Hbw.o _)
    exact HX0.o.trans Hx8.o
   have hzb:(!(z'==0))=true:=by simp[hz]
   have hzc:(z' !=0)=true:=hzb;have hzd:(z'==0)=false:=by simp[hz]
   have hzH:=Y8 hz;clear hz;obtain⟨bl,fz,c0,c1,c2⟩:=HBZ.o.ext Hx4.o;go_wp2_with fail;refine Ys (v:=.tuple #[.agg #[.string ⟨#[]⟩,.string ⟨#[]⟩,.string ⟨#[]⟩],.int .i64 z']) (by simp[results,results191,go_sem, *]) rfl ⟨⟨#[]⟩,⟨#[]⟩,⟨#[]⟩,z',rfl,(by first|assumption|exact Zgf _),(by first|assumption|exact Zgf _),(by first|assumption|exact Zgf _),fun h=>absurd h hzH.o,?_⟩;(repeat refine Y0 ?_ Hbw.o _)
   exact HX0.o.trans Hx4.o
  have d1:(!((n:Int)==1))=true:=by simp;omega
  have d2:((n:Int)!=1)=true:=d1;have d3:(!(n==1))=true:=by simp;omega
  have d4:(n !=1)=true:=d3;have d5:¬ (n:Int)=1:=by omega
  obtain⟨bl,fz,c0,c1,c2⟩:=HBZ.o.ext Hx2.o;go_wp2_with fail;refine Ys (v:=.tuple #[.agg #[.string ⟨#[]⟩,.string ⟨#[]⟩,.string ⟨#[]⟩],.int .i64 21]) (by simp[results,results191,go_sem, *]) rfl ⟨⟨#[]⟩,⟨#[]⟩,⟨#[]⟩,21,rfl,(by first|assumption|exact Zgf _),(by first|assumption|exact Zgf _),(by first|assumption|exact Zgf _),fun h=>absurd h (by decide),?_⟩;(repeat refine Y0 ?_ Hbw.o _)
  exact HX0.o.trans Hx2.o
 have h0b:(!(x==0))=true:=by simp[h0]
 have h0c:(x !=0)=true:=h0b;have h0d:(x==0)=false:=by simp[h0]
 have h0H:=Y8 h0;clear h0;obtain⟨bl,fz,c0,c1,c2⟩:=HBZ.o.ext Hx1.o;go_wp2_with fail;refine Ys (v:=.tuple #[.agg #[.string ⟨#[]⟩,.string ⟨#[]⟩,.string ⟨#[]⟩],.int .i64 x]) (by simp[results,results191,go_sem, *]) rfl ⟨⟨#[]⟩,⟨#[]⟩,⟨#[]⟩,x,rfl,(by first|assumption|exact Zgf _),(by first|assumption|exact Zgf _),(by first|assumption|exact Zgf _),fun h=>absurd h h0H.o,?_⟩;(repeat refine Y0 ?_ Hbw.o _)
 exact HX0.o.trans Hx1.o
theorem Ext.alloc_box{w:World}{T:Tbl}{a b:Array Value}{t t2:TypeId}(h:Ext w ((w.alloc (Wz T)).alloc (.cells a t))):Ext w ((w.alloc (Wz T)).alloc (.cells b t2)):=((Yk w).alloc _).alloc _
def sliceLen:Value→Nat | .slice _ n _=>n|_=>0
theorem Zix{w:World}{v:Value}{l:List Nm}{c j n:Nat}{u:Value}(h:Rd w (fun k=>c<k∧n≤k) 3 v l.length (Wh l)):Rd (w.setCell ⟨c,j,none⟩ u) (fun k=>c<k∧n≤k) 3 v l.length (Wh l):=Rd.chg h ((Chg.refl (· = c) w).setCell (p:=⟨c,j,none⟩) (.inl rfl) u) (fun k hk e=>by omega)
def Znv(N:Nat)(w:World)(e:Ending)(w':World):Prop:=∃ (nv av:Value) (ns:List Nm) (r:Zzk),e=.returned (.tuple #[nv,av,Vw r])∧Wo w' (fun k=>w.heap.size≤k) nv ns∧(r.e=0→ns.length=N∧1≤ns.length∧ns.length≤16∧KG ns∧srt ns=true)∧(nv.oneCell'=true∧0≤r.tick)∧Ext w w'
theorem Zku(w:World)(a u k:ByteArray)(t:TypeId)(g:Nat)(hg:w.heap.size=g):RdE nmE (w.alloc (.cells #[.string a,.string u,.string k] t)) (fun _=>True) (.slice (some ⟨g,0,none⟩) 1 1) [⟨a,u,k⟩]:=by
 subst hg;exact Qh w #[.string a,.string u,.string k] t 3 rfl
theorem Zmi{S R:Nat→Prop}(T:Tbl)(hf:Few T)(hu:Uq T)(v:Value)(l:List ByteArray)(w:World)(h:Xg w S T)(hl:RdE Vm w R v l):Calls prog 171 #[Vg T,v] w (Znv l.length w):=by
 obtain⟨A,C,rfl,hlC,hC⟩:=hl.shape;obtain⟨n,hn⟩:=gnX (l.length);have HL0:=Y8 hl;rw[hn]at hlC⊢;have Hnn:=Y8 hn;clear hl hn;obtain⟨X0,H,Hb0⟩:=tblX h;clear h;have Hf:=Y8 hf;have Hu:=Y8 hu;clear hf hu;have hz0:=Rg (w.alloc (Wz T));obtain⟨rb,hrb⟩:=gnX ((w.alloc (Wz T)).heap.size);have hrb2:w.heap.size+1=rb:=by rw[← hrb];simp
 rw[hrb]at hz0;have hx0:=X0.o.alloc (.cells #[.int .i64 0,.int .i64 0,.string ⟨#[]⟩,.int .i64 0,.int .i64 0,.string ⟨#[]⟩,.int .i64 0,.int .i64 0] 53);have h01:=(Yk (w.alloc (Wz T))).alloc (.cells #[.int .i64 0,.int .i64 0,.string ⟨#[]⟩,.int .i64 0,.int .i64 0,.string ⟨#[]⟩,.int .i64 0,.int .i64 0] 53);by_cases hn0:n=0
 ·subst hn0;go_enter func171,ntmps171;go_wp2_with (first|(refine Xv rfl ?_));refine Ys (v:=.tuple #[.slice none 0 0,.slice none 0 0,Vw ⟨10,(-1),⟨#[]⟩,default,0⟩]) (by simp[results,results171,go_sem,Vw,Qf, *]) rfl ⟨.slice none 0 0,.slice none 0 0,[],⟨10,(-1),⟨#[]⟩,default,0⟩,rfl,Rd.nil _ _ _,fun h=>absurd h (by decide),⟨rfl,Zfn _⟩,?_⟩;exact hx0.alloc_box
 have e0:((n:Int)==0)=false:=by simp;omega
 have e00:(n==0)=false:=by simp;omega
 have e000:¬ (n:Int)=0:=by omega
 by_cases h16:16<n
 ·have e1:decide ((16:Int)<(n:Int))=true:=Ye;go_enter func171,ntmps171;go_wp2_with (first|(refine Xv rfl ?_));refine Ys (v:=.tuple #[.slice none 0 0,.slice none 0 0,Vw ⟨7,(-1),⟨#[]⟩,default,0⟩]) (by simp[results,results171,go_sem,Vw,Qf, *]) rfl ⟨.slice none 0 0,.slice none 0 0,[],⟨7,(-1),⟨#[]⟩,default,0⟩,rfl,Rd.nil _ _ _,fun h=>absurd h (by decide),⟨rfl,Zfn _⟩,?_⟩;exact hx0.alloc_box
 have e1:decide ((16:Int)<(n:Int))=false:=Yf;go_enter func171,ntmps171;go_wp2_with (first|(refine Xv rfl ?_));obtain⟨W0,hW0⟩:=gnX ((w.alloc (Wz T)).alloc (.cells #[.int .i64 0,.int .i64 0,.string ⟨#[]⟩,.int .i64 0,.int .i64 0,.string ⟨#[]⟩,.int .i64 0,.int .i64 0] 53));rw[hW0]at hz0 hx0 h01;rw[hW0];have HZ0:=Y8 hz0;have HX0:=Y8 hx0;have H1:=Y8 (H.o.up h01);have Hb1:=Y8 (Hb0.o.ext h01);have hrw:w.heap.size≤rb:=by omega
 have Hrw:=Y8 hrw;have HL:=Y8 (HL0.o.ext HX0.o);obtain⟨B,hB⟩:=gnX (W0.heap.size);have HB:=Y8 hB;have HwB:=Y8 (show w.heap.size≤B by rw[← hB];exact hx0.size);clear hz0 hx0 h01 hW0 hrw hB HL0 X0 H Hb0 hrb hrb2;go_loopw [28,7] (fun o u wr=>∃ (i:Nat) (L:List Nm),i≤n∧o=.int .i64 (i:Int)∧Own nmE wr B u L∧L.length=i∧Ext W0 wr∧KG L) (fun o _ _=>n-(intOf o).toNat);case atStart=>exact⟨0,[],by omega,rfl,Own.nil _ _ _,rfl,Yk _,KG.nil⟩
 obtain⟨i,L,hi,rfl,ho,hLn,hx,hKS⟩:=hrel;have HKS:=Y8 hKS;clear hKS;obtain⟨A1,C1,rfl,hlC1,hC1⟩:=ho.shape;try rw[hLn]at ho
 try rw[hLn]
 rw[hLn]at hlC1;have Hx:=Y8 hx;have Ho:=Y8 ho;have HLn:=Y8 hLn;have hBw:B≤wr.heap.size:=by rw[← HB.o];exact hx.size
 have HBw:=Y8 hBw;clear hx ho hLn;by_cases hlt:i<n
 ·obtain⟨hd_i,i0_i,i1_i⟩:=LTl i n;obtain⟨x,hx0⟩:=geX (l:=l) (i:=i) (by rw[Hnn.o];exact hlt);obtain⟨g,o,c,hv,_,_,_,hg,c0⟩:=strs_get (HL.o.ext Hx.o) hx0;rw[Hnn.o]at hv;obtain⟨rfl,-,rfl⟩:=slcX hv;clear hv;clear hx0;go_wp2_with (refine Xy (Hb1.o.ext Hx.o) rfl ?_);refine(Zsc T Hf.o Hu.o x _ (H1.o.up Hx.o)).mono ?_;rintro e w2 ⟨a,u,k,z,rfl,ha,hu2,hk,hgd,hx2⟩;have Hx2:=Y8 (Hx.o.trans hx2);have Ho2:=Y8 (Ho.o.ext hx2);have hB2:B≤w2.heap.size:=Zgo HBw.o hx2.size;have Hgd:=Y8 (show z=0→Jz ⟨a,u,k⟩=true from fun h=>by obtain⟨p,q⟩:=hgd h;simp[Jz,p,q]);clear hx2 c0 hgd;by_cases hz:z=0
  ·subst hz;go_wp2_with (at_builtin;(refine Xt nmE _ _ _ rfl rfl rfl rfl (Ho2.o.ext (((Yk _).alloc _).alloc _)) rfl (Zku _ a u k _ _ (by first|rfl|simp)) (by rw[HLn.o];show _+1≤_;omega) (by show 48≤1000;omega) (by simp;omega) ?_;intro A5 n5 c5 w5 hg5;have Hx5:=Y8 (hg5.ext W0 ((Hx2.o.alloc _).alloc _) (by rw[HB.o];exact Ym _));have Hg5:=Y8 hg5;clear hg5));go_roundw;case rel=>exact⟨i+1,_,by omega,by go_num,Hg5.o.own,by rw[Zs,HLn.o];rfl,Hx5.o,HKS.o.snoc ⟨hk,hu2⟩ (Hgd.o (by first|exact True.intro|rfl))⟩
   (simp[intOf];omega)
  have hzb:(!(z==0))=true:=by simp[hz]
  have hzc:(z !=0)=true:=hzb;have hzd:(z==0)=false:=by simp[hz]
  have hzH:=Y8 hz;clear hz;obtain⟨y0,y1,y2,y3,y4,y5,y6,y7,yf,yl⟩:=HZ0.o.ext (Hx2.o.alloc (.cells #[.string a,.string u,.string k] 109));go_wp2_with fail;refine Ys (v:=.tuple #[.slice none 0 0,.slice none 0 0,Vw ⟨z,(i:Int),⟨#[]⟩,default,0⟩]) (by simp[results,results171,go_sem,Vw,Qf, *]) rfl ⟨.slice none 0 0,.slice none 0 0,[],⟨z,(i:Int),⟨#[]⟩,default,0⟩,rfl,Rd.nil _ _ _,fun h=>absurd h hzH.o,⟨rfl,Zfn _⟩,?_⟩;(repeat refine Y0 ?_ Hrw.o _)
  exact HX0.o.trans (Hx2.o.alloc _)
 have hd_i:=GEl i n;obtain rfl:i=n:=by omega
 obtain⟨B2,hB2⟩:=gnX (wr.heap.size);have HB2:=Y8 hB2;have HrB:=Y8 (show rb<B2 by rw[← hB2];exact(HZ0.o.ext Hx.o).lt);have HwB2:=Y8 (show w.heap.size≤B2 by rw[← hB2];exact Zgo HwB.o hBw);have HN:=Y8 (show Wo wr (fun k=>B≤k) (.slice A1 L.length C1) L from by have:=Ho.o;rw[← HLn.o]at this;exact this.rd);have hXW:=HX0.o.trans Hx.o;have HXW:=Y8 hXW;have HZ1:=Y8 (HZ0.o.ext Hx.o);unfold maxLen at hC1;clear hB2 hBw HBw Ho Hx HB Hb1 H1 HZ0 HX0 hXW;go_wp2_with fail;go_loopw [12,13] (fun u v wr2=>∃ (out:List Nm) (av:List Int),Own nmE wr2 B2 u out∧Own Ww wr2 B2 v av∧(∀ k,u.ownBlock=some k→v.ownBlock≠some k)∧Ba L (Lm out)=out.length∧out.length≤i∧av.length=out.length∧Ext wr wr2∧KG out∧srt out=true) (fun u _ _=>i-sliceLen u);case atStart=>exact⟨[],[],Own.nil _ _ _,Own.nil _ _ _,(by intro k h;cases h),Zz6 L,by simp,rfl,Yk _,KG.nil,rfl⟩
 rename World=>wq
 obtain⟨out,av,hou,hav,hne,hch,hol,hal,hx,hKo⟩:=hrel;have HKo:=Y8 hKo;clear hKo;obtain⟨A2,C2,rfl,hlC2,hC2⟩:=hou.shape;obtain⟨A3,C3,rfl,hlC3,hC3⟩:=hav.shape;obtain⟨m,hm⟩:=gnX (out.length);rw[hal]at hav hlC3 hne⊢;rw[hm]at hou hlC2 hol hch hav hlC3 hne⊢;have Hm:=Y8 hm;have Hal:=Y8 (hal.trans hm);have Hou:=Y8 hou;have Hav:=Y8 hav;have Hne:=Y8 hne;have Hch:=Y8 hch;have Hx:=Y8 hx;have hBw2:B2≤wq.heap.size:=by rw[← HB2.o];exact hx.size
 have HBw2:=Y8 hBw2;unfold maxLen at hC2;clear hal hm hou hav hne hch hx hBw2;by_cases hlt:m<i
 ·obtain⟨hd_m,i0_m,i1_m⟩:=LTl m i;go_wp2_with fail;obtain⟨o9,ho9⟩:=gnX (Lm out);have Ho9:=Y8 ho9;clear ho9;go_loopw [56,14] (fun o z wx=>∃ (j:Nat) (Z:Int),j≤i∧o=.int .i64 (j:Int)∧z=.int .i64 Z∧Sel L o9 j Z∧Ext wq wx) (fun o _ _=>i-(intOf o).toNat);case atStart=>exact⟨0,-1,by omega,rfl,rfl,Sel.start _ _,Yk _⟩
  rename World=>wi
  obtain⟨j,Z,hj,rfl,rfl,hsel,hxi⟩:=hrel;have Hsel:=Y8 hsel;have Hxi:=Y8 hxi;clear hxi;by_cases hji:j<i
  ·obtain⟨hd_j,i0_j,i1_j⟩:=LTl j i;obtain⟨nm,hnm⟩:=geX (l:=L) (i:=j) (by rw[HLn.o];exact hji);obtain⟨g,o,c,hv,_,_,_,hg,hcell⟩:=(HN.o.ext (Hx.o.trans Hxi.o)).get (j:=j) (by rw[HLn.o];exact hji);rw[HLn.o]at hv;obtain⟨rfl,-,rfl⟩:=slcX hv;clear hv;obtain⟨q0,q1,q2⟩:=hcell j nm hnm;have hzc:=Hsel.o.at_;go_wp2_with fail;have q9:(wi.alloc (.cells #[.string nm.a,.string nm.u,.string nm.k] 109)).cell? ⟨wi.heap.size,2,none⟩=some (.string nm.k):=by go_simp
   have m9:=lat q9;have Hnm:=Y8 hnm;clear q0 q1 q2 q9 hsel hnm;rcases Zfs m with hm0|hm0
   ·have hob:Behind o9 nm=true:=by
     have h1:out=[]:=Zgb (by rw[Hm.o];exact hm0);rw[← Ho9.o,h1];rfl
    have Hb:=Y8 hob;have k1:((m:Int)==0)=true:=by simp;omega
    have k2:(m==0)=true:=by simp;omega
    clear hob hm0;rcases hzc with rfl | ⟨k,mk,rfl,hk,hmk⟩
    ·clear hcell;have hun:=Ya;refine wreX ?_;repeat(refine(Yu ?_:);intro K hK;go_simp;refine hK _ ?_;clear hK K)
     refine Yt ?_;intro w9 hy9;clear hun;try simp only[Yb]
     go_wp2_with fail;go_roundw;case rel=>exact⟨j+1,_,by omega,by go_num,rfl,(Hsel.o.first Hnm.o Hb.o),(Hxi.o.alloc _).trans hy9⟩
     (simp[intOf];omega)
    have z1:decide ((k:Int)<0)=false:=Yf;have z2:(0:Int)≤(k:Int):=by omega
    have z3:(k:Int)<(i:Int):=by omega
    have z4:k<i:=by omega
    obtain⟨p0,p1,p2⟩:=hcell k mk hmk;have m8:=lat (((((Yk wi).alloc (.cells #[.string nm.a,.string nm.u,.string nm.k] 109))).cell (p:=⟨g,o+k*3+2,none⟩) hg).trans p2);have Hmk:=Y8 hmk;clear p0 p1 p2 hcell hmk;by_cases hl:kb nm.k<kb mk.k
    ·have l1:=I6 hl;have Hl:=Y8 hl;clear hl;have hun:=Ya;refine wreX ?_;repeat(refine(Yu ?_:);intro K hK;go_simp;refine hK _ ?_;clear hK K)
     refine Yt ?_;intro w9 hy9;clear hun;try simp only[Yb]
     go_wp2_with fail;go_roundw;case rel=>exact⟨j+1,_,by omega,by go_num,rfl,(Hsel.o.less Hmk.o Hnm.o Hb.o Hl.o),(Hxi.o.alloc _).trans hy9⟩
     (simp[intOf];omega)
    have l1:=Rs hl;have Hl:=Y8 hl;clear hl;have hun:=Ya;refine wreX ?_;repeat(refine(Yu ?_:);intro K hK;go_simp;refine hK _ ?_;clear hK K)
    refine Yt ?_;intro w9 hy9;clear hun;try simp only[Yb]
    go_wp2_with fail;go_roundw;case rel=>exact⟨j+1,_,by omega,by go_num,rfl,(Hsel.o.keep Hmk.o Hnm.o Hl.o),(Hxi.o.alloc _).trans hy9⟩
    (simp[intOf];omega)
   have k1:((m:Int)==0)=false:=by simp;omega
   have k2:(m==0)=false:=by simp;omega
   have k3:¬ (m:Int)=0:=by omega
   obtain⟨r,hr⟩:=gnX (m-1);obtain⟨y,hy⟩:=geX (l:=out) (i:=r) (by rw[Hm.o];omega);have hlk:Lm out=some (kb y.k):=Zmm (by rw[Hm.o,hr];exact hy);have r1:IntKind.i64.wrap ((m:Int)-1)=(r:Int):=by rw[Yp _ (by omega)];omega
   have r2:(0:Int)≤(r:Int):=by omega
   have r3:(r:Int)<(m:Int):=by omega
   have r4:r<m:=by omega
   have HO:=Y8 (show Wo wi (fun k=>B2≤k) (.slice A2 out.length C2) out from by have:=Hou.o.ext Hxi.o;rw[← Hm.o]at this;exact this.rd);obtain⟨g2,o2,c2,hv2,_,_,_,hg2,hcell2⟩:=HO.o.get (j:=r) (by rw[Hm.o];exact r4);rw[Hm.o]at hv2;obtain⟨rfl,-,rfl⟩:=slcX hv2;clear hv2;obtain⟨p0,p1,p2⟩:=hcell2 r y hy;have m7:=lat (((((Yk wi).alloc (.cells #[.string nm.a,.string nm.u,.string nm.k] 109))).cell (p:=⟨g2,o2+r*3+2,none⟩) hg2).trans p2);have hoy:o9=some (kb y.k):=by rw[← Ho9.o,hlk]
   clear p0 p1 p2 hcell2 hr hy hlk;by_cases hbe:kb y.k<kb nm.k
   ·obtain⟨l2,l3⟩:=Zjc hbe;have Hb:=Y8 (show Behind o9 nm=true by rw[hoy];simp[Behind,hbe]);clear hbe hoy;rcases hzc with rfl | ⟨k,mk,rfl,hk,hmk⟩
    ·clear hcell;have hun:=Ya;refine wreX ?_;repeat(refine(Yu ?_:);intro K hK;go_simp;refine hK _ ?_;clear hK K)
     refine Yt ?_;intro w9 hy9;clear hun;try simp only[Yb]
     go_wp2_with fail;go_roundw;case rel=>exact⟨j+1,_,by omega,by go_num,rfl,(Hsel.o.first Hnm.o Hb.o),(Hxi.o.alloc _).trans hy9⟩
     (simp[intOf];omega)
    have z1:decide ((k:Int)<0)=false:=Yf;have z2:(0:Int)≤(k:Int):=by omega
    have z3:(k:Int)<(i:Int):=by omega
    have z4:k<i:=by omega
    obtain⟨p0,p1,p2⟩:=hcell k mk hmk;have m8:=lat (((((Yk wi).alloc (.cells #[.string nm.a,.string nm.u,.string nm.k] 109))).cell (p:=⟨g,o+k*3+2,none⟩) hg).trans p2);have Hmk:=Y8 hmk;clear p0 p1 p2 hcell hmk;by_cases hl:kb nm.k<kb mk.k
    ·have l1:=I6 hl;have Hl:=Y8 hl;clear hl;have hun:=Ya;refine wreX ?_;repeat(refine(Yu ?_:);intro K hK;go_simp;refine hK _ ?_;clear hK K)
     refine Yt ?_;intro w9 hy9;clear hun;try simp only[Yb]
     go_wp2_with fail;go_roundw;case rel=>exact⟨j+1,_,by omega,by go_num,rfl,(Hsel.o.less Hmk.o Hnm.o Hb.o Hl.o),(Hxi.o.alloc _).trans hy9⟩
     (simp[intOf];omega)
    have l1:=Rs hl;have Hl:=Y8 hl;clear hl;have hun:=Ya;refine wreX ?_;repeat(refine(Yu ?_:);intro K hK;go_simp;refine hK _ ?_;clear hK K)
    refine Yt ?_;intro w9 hy9;clear hun;try simp only[Yb]
    go_wp2_with fail;go_roundw;case rel=>exact⟨j+1,_,by omega,by go_num,rfl,(Hsel.o.keep Hmk.o Hnm.o Hl.o),(Hxi.o.alloc _).trans hy9⟩
    (simp[intOf];omega)
   have l2:=Zmy hbe;have Hb:=Y8 (show Behind o9 nm=false by rw[hoy];simp[Behind,hbe]);clear hbe hoy hcell hzc;have hun:=Ya;refine wreX ?_;repeat(refine(Yu ?_:);intro K hK;go_simp;refine hK _ ?_;clear hK K)
   refine Yt ?_;intro w9 hy9;clear hun;try simp only[Yb]
   go_wp2_with fail;go_roundw;case rel=>exact⟨j+1,_,by omega,by go_num,rfl,(Hsel.o.skip Hnm.o Hb.o),(Hxi.o.alloc _).trans hy9⟩
   (simp[intOf];omega)
  have hd_j:=GEl j i;obtain rfl:j=i:=by omega
  have hseln:Sel L o9 L.length Z:=by rw[HLn.o];exact hsel
  obtain⟨k,mk,rfl,hk,hmk,hbk,hmin,hfirst⟩:=hseln.found (by rw[← Ho9.o,Hch.o,HLn.o];exact hlt);rw[HLn.o]at hk;have Hmk:=Y8 hmk;have Hbk:=Y8 hbk;have Hmin:=Y8 hmin;have Hfirst:=Y8 hfirst;obtain⟨K1,hK1⟩:=gnX (k+1);have r1:IntKind.i64.wrap ((k:Int)+1)=(K1:Int):=by rw[Yp _ (by omega)];omega
  clear hseln hsel hmk hbk hmin hfirst Hsel;go_wp2_with fail;go_loopw [17] (fun o wx=>∃ q:Nat,K1≤q∧q≤j∧o=.int .i64 (q:Int)∧(∀ p x,k<p→p<q→L[p]?=some x→x.k≠mk.k)∧Ext wi wx) (fun o _=>j-(intOf o).toNat);case atStart=>exact⟨K1,by omega,by omega,rfl,fun p x h1 h2=>by omega,Yk _⟩
  rename World=>w4
  obtain⟨q,hq1,hq2,rfl,htw,hx4⟩:=hrel;have Htw:=Y8 htw;have HX4:=Y8 (Hxi.o.trans hx4);have HXi4:=Y8 hx4;clear htw hx4;by_cases hqj:q<j
  ·obtain⟨hd_q,i0_q,i1_q⟩:=LTl q j;obtain⟨nq,hnq⟩:=geX (l:=L) (i:=q) (by rw[HLn.o];exact hqj);obtain⟨g,o,c,hv,_,_,_,hg,hcell⟩:=(HN.o.ext (Hx.o.trans HX4.o)).get (j:=q) (by rw[HLn.o];exact hqj);rw[HLn.o]at hv;obtain⟨rfl,-,rfl⟩:=slcX hv;clear hv;obtain⟨q0,q1,q2⟩:=hcell q nq hnq;obtain⟨p0,p1,p2⟩:=hcell k mk Hmk.o;have m1:=lat q2;have m2:=lat p2;have z2:(0:Int)≤(k:Int):=by omega
   have z3:(k:Int)<(j:Int):=by omega
   have Hnq:=Y8 hnq;clear p0 p1 q1 hcell hnq;cases heq:(nq.k.toList==mk.k.toList)
   ·have heq2:¬ nq.k.toList=mk.k.toList:=by simpa using heq
    have hne2:nq.k≠mk.k:=fun e=>heq2 (by rw[e])
    have Hne2:=Y8 hne2;clear hne2 q0;go_wp2_with fail;have hun:=Ya;refine wreX ?_;repeat(refine(Yu ?_:);intro K hK;go_simp;refine hK _ ?_;clear hK K)
    refine Yt ?_;intro w9 hy9;clear hun;try simp only[Yb]
    go_wp2_with fail;go_roundw;case rel =>
     refine⟨q+1,by omega,by omega,by go_num,fun p x h1 h2 h3=>?_,HXi4.o.trans hy9⟩;rcases(show p<q∨p=q by omega)with h4|rfl
     ·exact Htw.o p x h1 h4 h3
     rw[Hnq.o]at h3;cases h3;exact Hne2.o
    case measure=>(simp[intOf];omega)
   have heq2:nq.k.toList=mk.k.toList:=by simpa using heq
   clear heq2;go_wp2_with fail;have hun:=Ya;refine wreX ?_;repeat(refine(Yu ?_:);intro K hK;go_simp;refine hK _ ?_;clear hK K)
   refine Yt ?_;intro w9 hy9;clear hun;try simp only[Yb]
   have q0':=(hy9.cell (p:=⟨g,o+q*3,none⟩) hg).trans q0;have HX9:=Y8 (HX4.o.trans hy9);clear q0 q2 p2 m1 m2 hy9;obtain⟨y0,y1,y2,y3,y4,y5,y6,y7,yf,yl⟩:=HZ1.o.ext (Hx.o.trans HX9.o);go_wp2_with fail;go_region;all_goals
    go_wp2_with fail;refine Ys (v:=.tuple #[.slice none 0 0,.slice none 0 0,Vw ⟨22,(q:Int),nq.a,default,0⟩]) (by simp[results,results171,go_sem,Vw,Qf, *]) rfl ⟨.slice none 0 0,.slice none 0 0,[],⟨22,(q:Int),nq.a,default,0⟩,rfl,Rd.nil _ _ _,fun h=>absurd h (show ¬ (22:Int)=0 by decide),⟨rfl,Zfn _⟩,?_⟩;(first|refine Yh ?_|refine Yi ?_ _|skip)
    (repeat refine Y0 ?_ Hrw.o _)
    first|exact HXW.o.trans (Hx.o.trans HX9.o)|exact(HXW.o.trans (Hx.o.trans HX9.o)).drew|exact(HXW.o.trans (Hx.o.trans HX9.o)).drewN _
  have hd_q:=GEl q j;obtain rfl:q=j:=by omega
  obtain⟨g,o,c,hv,_,_,_,hg,hcell⟩:=(HN.o.ext (Hx.o.trans HX4.o)).get (j:=k) (by rw[HLn.o];exact hk);rw[HLn.o]at hv;obtain⟨rfl,-,rfl⟩:=slcX hv;clear hv;obtain⟨p0,p1,p2⟩:=hcell k mk Hmk.o;have z2:(0:Int)≤(k:Int):=by omega
  have z3:(k:Int)<(q:Int):=by omega
  have V4:=Y8 (Hou.o.ext HX4.o);have U4:=Y8 (Hav.o.ext HX4.o);have hB4:B2≤w4.heap.size:=Zgo HBw2.o HX4.o.size;clear hcell;go_wp2_with (first|(at_builtin;(refine Xt nmE _ _ _ rfl rfl rfl rfl (V4.o.ext ((Yk _).alloc _)) rfl (Zku w4 mk.a mk.u mk.k _ _ rfl) (by rw[Hm.o];show m+1≤_;omega) (by show 48≤1000;omega) (by simp;omega) ?_;intro A5 n5 c5 w5 hg5;have H5:=Y8 hg5;have X5:=Y8 (hg5.ext wr ((Hx.o.trans HX4.o).alloc _) (by rw[HB2.o];exact Ym _));have U5:=Y8 ((U4.o.ext ((Yk _).alloc _)).chg hg5.chg (fun kk h1 h2=>Hne.o kk h2 h1));have hB5:B2≤w5.heap.size:=(by rw[← HB2.o];exact X5.o.size);clear hg5))|(at_builtin;(refine Xt Ww _ _ _ rfl rfl rfl rfl (U5.o.ext ((Yk _).alloc _)) rfl (Ws w5 (k:Int) _ _ rfl) (by rw[Hal.o];show m+1≤_;omega) (by show 8≤1000;omega) (by simp;omega) ?_;intro A6 n6 c6 w6 hg6;have H6:=Y8 hg6;have X6:=Y8 (hg6.ext wr (X5.o.alloc _) (by rw[HB2.o];exact Ym _));clear hg6)));go_roundw;case rel =>
   have hlt5:∀ kk,(Value.slice A5 n5 c5).ownBlock=some kk→kk<w5.heap.size:=fun kk h=>(H5.o.own.lt kk h).2
   have hn56:∀ kk,(Value.slice A5 n5 c5).ownBlock=some kk→(Value.slice A3 m C3).ownBlock≠some kk:=by
    intro kk h1 h2;rcases H5.o.at_ with h|h
    ·exact Hne.o kk ((show(Value.slice A5 n5 c5).ownBlock=(Value.slice A2 m C2).ownBlock from h).symm.trans h1) h2
    rw[h1]at h;have h3:=(U4.o.lt kk h2).2;simp at h;omega
   have hst:=Zz7 Hmk.o Hbk.o Hmin.o (fun p x h1 h2=>by
    rcases Zf1 p k with h|h|h
    ·exact absurd h2 (Hfirst.o p x h h1)
    ·exact h
    exact absurd h2 (Htw.o p x h (by have:=(Zr.1 h1).1;rw[HLn.o]at this;exact this) h1))
   refine⟨out++[mk],av++[(k:Int)],(H5.o.own.ext ((Yk _).alloc _)).chg H6.o.chg (fun kk h1 h2=>hn56 kk h1 h2),H6.o.own,fun kk h1 h2=>?_,by rw[Zuw,hst,← Ho9.o,Hch.o,Zs,Hm.o];rfl,by rw[Zs,Hm.o];show m+1≤_;omega,by simp[Hm.o,Hal.o],X6.o,HKo.o.1.snoc (HKS.o.1 _ (Zy Hmk.o)) (Zfl.1 HKS.o.2 _ (Zy Hmk.o)),Zw6 HKo.o.2 (by rw[Ho9.o];exact Hbk.o)⟩;rcases H6.o.at_ with h|h
   ·exact hn56 kk h1 ((show(Value.slice A6 n6 c6).ownBlock=(Value.slice A3 m C3).ownBlock from h).symm.trans h2)
   have h3:=hlt5 kk h1;rw[h2]at h;simp at h;omega
  case measure =>
   have e5:n5=m+1:=by rw[H5.o.len,Zs,Hm.o];rfl
   simp only[sliceLen];omega
 have hd_m:=GEl m i;obtain⟨y0,y1,y2,y3,y4,y5,y6,y7,yf,yl⟩:=HZ1.o.ext Hx.o;go_wp2_with fail;refine Ys (v:=.tuple #[.slice A2 m C2,.slice A3 m C3,Vw ⟨0,-1,⟨#[]⟩,default,0⟩]) (by simp[results,results171,go_sem,Vw,Qf, *]) rfl ⟨.slice A2 m C2,.slice A3 m C3,out,⟨0,-1,⟨#[]⟩,default,0⟩,rfl,?_,fun _=>⟨by rw[Hm.o];omega,by rw[Hm.o];omega,by rw[Hm.o];omega,HKo.o⟩,⟨rfl,Zfn _⟩,?_⟩
 ·have h9:Wo wq (fun k=>B2≤k) (.slice A2 m C2) out:=by have:=Hou.o;exact this.rd
  have h8:Wo wq (fun k=>rb<k∧w.heap.size≤k) (.slice A2 m C2) out:=Rd.mono h9 fun k hk _=>by have:=HwB2.o;have:=HrB.o;omega
  refine Rd.mono (S:=fun k=>rb<k∧w.heap.size≤k) ?_ fun _ hk _=>hk.2
  (repeat refine Zix ?_)
  exact h8
 (repeat refine Y0 ?_ Hrw.o _)
 exact HXW.o.trans Hx.o
