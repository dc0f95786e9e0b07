/- Lemmas of this claim: Km, Kq. Conditions: as named. -/
import Derived.Test.YtnbclgbicnpmnaaGreatA07
import Derived.Test.YtnbclgbicnpmnaaGreatA15
import Derived.Test.YtnbclgbicnpmnaaGreatA46
import Derived.Test.YtnbclgbicnpmnaaGreatA47
namespace Go.Proofs.YtnbclgbicnpmnaaGreat
open Go.RowKit Go.Sort
set_option maxHeartbeats 0
set_option maxRecDepth 100000
set_option linter.all false
section
structure Ue(U:Nat→Prop)(w0 w:World)(B b s:Nat)(cs:List Value)(ix:Nat)(dv:Value)(dec:List MpS):Prop where
 src:Src B w s
 chg:Chg U w0 w
 box:Xo w b (cs.set ix dv)
 dOwn:Own mpE w w0.heap.size dv dec
 tos:∀ m∈dec,Xx w (fun k=>w0.heap.size≤k∧dv.ownBlock≠some k) m.1.tv m.1.to_∧m.1.to_.length≤18
 hU:∀ k,U k→k<w0.heap.size
 ub:U b
 us:U s
 bs:b≠s
 bB:B≤b
section
variable {U:Nat→Prop} {w0 w w':World} {B b s ix:Nat} {cs:List Value} {dv:Value} {dec:List MpS}
theorem Ue.to(h:Ue U w0 w B b s cs ix dv dec)(t:We B s w w'):Ue U w0 w' B b s cs ix dv dec :=
 have hsl:=h.hU s h.us
 ⟨t.src,h.chg.thenB t.chg (fun k _ e=>e▸h.us),h.box.chg t.chg h.bs,h.dOwn.chg t.chg (fun k hk e=>by have:=(h.dOwn.lt k hk).1;omega),
   fun m hm=>⟨(h.tos m hm).1.chg t.chg (fun k hk e=>by have:=hk.1;omega),(h.tos m hm).2⟩,h.hU,h.ub,h.us,h.bs,h.bB⟩
theorem Ue.ext(h:Ue U w0 w B b s cs ix dv dec)(x:Ext w w'):Ue U w0 w' B b s cs ix dv dec :=
 ⟨h.src.ext x,h.chg.trans (x.chg _),h.box.ext x,h.dOwn.ext x,fun m hm=>⟨(h.tos m hm).1.ext x,(h.tos m hm).2⟩,h.hU,h.ub,h.us,h.bs,h.bB⟩
theorem Ue.far{c j:Nat}(h:Ue U w0 w B b s cs ix dv dec)(hc:U c)(hcb:c≠b)(hcs:c≠s)(hB:B≤c)(u:Value):Ue U w0 (w.setCell ⟨c,j,none⟩ u) B b s cs ix dv dec :=
 have hcl:=h.hU c hc
 ⟨h.src.setCell (by show B≤c;exact hB) hcs u,h.chg.setCell (.inl hc) u,h.box.far (Ne.symm hcb) u,h.dOwn.far (fun e=>by have:=(h.dOwn.lt c e).1;omega) u,
   fun m hm=>⟨(h.tos m hm).1.chg ((Chg.refl (· = c) w).setCell (p:=⟨c,j,none⟩) (.inl rfl) u) (fun k hk e=>by have:=hk.1;omega),(h.tos m hm).2⟩,h.hU,h.ub,h.us,h.bs,h.bB⟩
theorem Ue.cell{j:Nat}{u:Value}(h:Ue U w0 w B b s cs ix dv dec)(hj:j≠ix)(hb:Xo w' b ((cs.set ix dv).set j u))(c:Chg (· = b) w w'):Ue U w0 w' B b s (cs.set j u) ix dv dec :=
 have hbl:=h.hU b h.ub;have hsl:=h.hU s h.us
 ⟨h.src.chg c (fun e=>h.bs e.symm) (fun k hk e=>by have:=h.bB;omega),h.chg.thenB c (fun k _ e=>e▸h.ub),by rw[List.set_comm _ _ hj];exact hb,h.dOwn.chg c (fun k hk e=>by have:=(h.dOwn.lt k hk).1;omega),
   fun m hm=>⟨(h.tos m hm).1.chg c (fun k hk e=>by have:=hk.1;omega),(h.tos m hm).2⟩,h.hU,h.ub,h.us,h.bs,h.bB⟩
theorem Ue.cx(h:Ue U w0 w B b s cs ix dv dec)(hc:ix<cs.length):w.cell? ⟨b,ix,none⟩=some dv:=by
 rw[h.box.at_ ix (by simpa using hc),Yv,Zm4 rfl,Zm4 hc]
theorem Ue.grow{A:Option Addr}{n c:Nat}{m:MpS}{o:Obj}(h:Ue U w0 w B b s cs ix dv dec)(hix:ix<cs.length)(hm:Xx w (fun k=>w0.heap.size≤k∧dv.ownBlock≠some k) m.1.tv m.1.to_)(hm2:m.1.to_.length≤18)
 (hg:Grew mpE (w.alloc o) w0.heap.size dv (dec++[m]) A n c w'):Ue U w0 (w'.setCell ⟨b,ix,none⟩ (.slice A n c)) B b s cs ix (.slice A n c) (dec++[m]):=by
 have hsl:=h.hU s h.us;have hbl:=h.hU b h.ub;have hlt:∀ k,dv.ownBlock=some k→w0.heap.size≤k:=fun k hk=>(h.dOwn.lt k hk).1
 have hat:∀ k,(Value.slice A n c).ownBlock=some k→dv.ownBlock=some k∨k=(w.alloc o).heap.size:=fun k hk=>by
  rcases hg.at_ with h1|h1
  ·exact .inl (by rw[← h1];exact hk)
  rw[hk]at h1;exact .inr (Zm6 h1)
 refine⟨?_,?_,?_,?_,?_,h.hU,h.ub,h.us,h.bs,h.bB⟩
 ·exact(((h.src.alloc o).chg hg.chg (fun e=>by have:=hlt s e;omega) (fun k hk e=>by have:=hlt k e;have:=h.src.ge;omega))).setCell h.bB (by show b≠s;exact h.bs) _
 ·exact((h.chg.alloc o).thenB hg.chg (fun k hk e=>by have:=hlt k e;omega)).setCell (.inl h.ub) _
 ·have h1:=(h.box.ext ((Yl _).alloc o)).chg hg.chg (fun e=>by have:=hlt b e;omega);have h2:=h1.set (j:=ix) (by simpa using hix) (.slice A n c)
  rwa [Zjj]at h2
 ·exact hg.own.far (fun e=>by have:=(hg.own.lt b e).1;omega) _
 intro q hq;have key:∀ {v:Value} {l:List Int},Xx w (fun k=>w0.heap.size≤k∧dv.ownBlock≠some k) v l→Xx (w'.setCell ⟨b,ix,none⟩ (.slice A n c)) (fun k=>w0.heap.size≤k∧(Value.slice A n c).ownBlock≠some k) v l:=by
  intro v l h1;have h3:Xx (w.alloc o) (fun k=>(w0.heap.size≤k∧dv.ownBlock≠some k)∧k<w.heap.size) v l:=Xx.ext (Rd.mono h1 fun k hk hl=>⟨hk,hl⟩) ((Yl _).alloc o);have h4:=(h3.chg hg.chg (fun k hk e=>hk.1.2 e)).chg ((Chg.refl (· = b) w').setCell (p:=⟨b,ix,none⟩) (.inl rfl) (.slice A n c)) (fun k hk e=>by have:=hk.1.1;omega);exact Rd.mono h4 fun k hk _=>⟨hk.1.1,fun e=>by
   rcases hat k e with h5|h5
   ·exact hk.1.2 h5
   have:=hk.2;simp at h5;omega⟩
 rcases Zj.1 hq with hq|hq
 ·exact⟨key (h.tos q hq).1,(h.tos q hq).2⟩
 rw[Zi.1 hq];exact⟨key hm,hm2⟩
theorem Zr7{A:Option Addr}{n c:Nat}{m:MpS}{o:Obj}{u:Value}{l:List Sp}(h:Ue U w0 w B b s cs ix dv dec)(hu:Vv w (fun k=>w0.heap.size≤k∧dv.ownBlock≠some k) u l)(hg:Grew mpE (w.alloc o) w0.heap.size dv (dec++[m]) A n c w')(x:Value) :
 Vv (w'.setCell ⟨b,ix,none⟩ x) (fun k=>w0.heap.size≤k∧(Value.slice A n c).ownBlock≠some k) u l:=by
 have hbl:=h.hU b h.ub;have h3:Vv (w.alloc o) (fun k=>(w0.heap.size≤k∧dv.ownBlock≠some k)∧k<w.heap.size) u l:=Vv.ext (Rd.mono hu fun k hk hl=>⟨hk,hl⟩) ((Yl _).alloc o);have h4:=(h3.chg hg.chg (fun k hk e=>hk.1.2 e)).chg ((Chg.refl (· = b) w').setCell (p:=⟨b,ix,none⟩) (.inl rfl) x) (fun k hk e=>by have:=hk.1.1;omega);exact Rd.mono h4 fun k hk _=>⟨hk.1.1,fun e=>by
  rcases hg.at_ with h1|h1
  ·exact hk.1.2 (h1.symm.trans e)
  rw[e]at h1;have:=hk.2;simp at h1;omega⟩
end
end
abbrev iV:Int→Value:=Value.int .i64
theorem Ue.back{U:Nat→Prop}{w W1 w':World}{B b s ix:Nat}{cs:List Value}{dv:Value}{dec:List MpS}(h:Ue U W1 w' B b s cs ix dv dec)(x:Ext w W1)(hU:∀ k,U k→k<w.heap.size):Ue U w w' B b s cs ix dv dec :=
 ⟨h.src,(x.chg U).trans h.chg,h.box,h.dOwn.base x.size,fun m hm=>⟨Rd.mono (h.tos m hm).1 fun k hk _=>⟨Zm5 x.size hk.1,hk.2⟩,(h.tos m hm).2⟩,hU,h.ub,h.us,h.bs,h.bB⟩
def Zwo(U:Nat→Prop)(w0:World)(B b s:Nat)(cs:List Value)(e:Ending)(w':World):Prop :=
 ∃ (dv:Value) (dec:List MpS) (u:Value) (l:List Sp),e=.returned (.tuple #[])∧Ue U w0 w' B b s (cs.set 5 u) 8 dv dec∧dec.length≤28∧Vv w' (fun k=>w0.heap.size≤k) u l∧l.length≤28∧Zql (dec.map Subtype.val) l 28
theorem Zva(U:Nat→Prop)(B b s gs C:Nat)(cs:List Value)(st:List Int)(w:World)(h:Ue U w w B b s cs 8 (.slice none 0 0) [])(hcl:cs.length=12)(h5:cs[5]?=some (.slice none 0 0))
 (hst:Xo w gs (st.map iV)) (hsl:st.length=28) (hug:U gs) (hgb:gs≠b) (hgs:gs≠s) (hBg:B≤gs) (hC:28≤C) (hs3:∀ z∈st,0≤z∧z≤4∧z≠3) :
 Calls Tryz.prog 48 #[.pointer (some ⟨s,0,none⟩),.pointer (some ⟨b,0,none⟩),.slice (some ⟨gs,0,none⟩) 28 C] w (Zwo U w B b s cs):=by
 have H:=Y4 h;have Hst:=Y4 hst;have H5:=Y4 h5;have Hsl:=Y4 hsl;have Hs3:=Y4 hs3;clear h hst h5 hsl hs3;go_enter Tryz.func48,Tryz.ntmps48;go_wp2_with fail;refine(Zzr _).mono ?_;rintro e w1 ⟨pv,rfl,hrow,hx1⟩;obtain⟨Ap,Cp,rfl,hlp,hcp⟩:=Xx.shape hrow;have hp28:Ja.length=28:=rfl;rw[hp28]at hrow hlp⊢;have Hrow:=Y4 hrow;have HX1:=Y4 hx1;unfold maxLen at hcp;have hs1:=hx1.size;have hU:=H.o.hU;have G00:=Y4 (show Ue U w1 w1 B b s (cs.set 5 (.slice none 0 0)) 8 (.slice none 0 0) [] from by
  have g:=H.o.ext hx1;refine⟨g.src,Chg.refl _ _,?_,Own.nil _ _ _,by simp,fun k hk=>Zm1 (hU k hk) hs1,g.ub,g.us,g.bs,g.bB⟩;rw[Gv H5.o];exact g.box)
 have B00:=Y4 (Hst.o.ext hx1);clear hrow hx1 hp28;go_wp2_with fail;go_loopw [13] (fun o wx=>∃ (i:Nat) (dv:Value) (dec:List MpS) (u:Value) (l:List Sp) (st:List Int),i≤28∧o=.int .i64 (i:Int)∧Ue U w1 wx B b s (cs.set 5 u) 8 dv dec∧dec.length≤i∧Vv wx (fun k=>w1.heap.size≤k∧dv.ownBlock≠some k) u l∧l.length≤i∧Xo wx gs (st.map iV)∧st.length=28∧Zql (dec.map Subtype.val) l i∧(∀ (j:Nat) z,i≤j→st[j]?=some z→0≤z∧z≤4∧z≠3)) (fun o _=>28-(intOf o).toNat);case atStart=>exact⟨0,_,[],_,[],st,by omega,rfl,G00.o,by simp,Rd.nil ..,by simp,B00.o,Hsl.o,⟨SpP.nil _ _,by simp,by simp,by simp⟩,fun j z _ h=>Hs3.o z (Zy h)⟩
 rename World=>wx
 clear Hst Hsl B00 G00 Hs3;obtain⟨i,dv,dec,u,l,st,hi,rfl,hg,hl,hsp,hl2,hbs,hsl,hmp,hs3⟩:=hrel;have Hmp:=Y4 hmp;have Hs3:=Y4 hs3;have G0:=Y4 hg;have Hl:=Y4 hl;have S0:=Y4 hsp;have Hl2:=Y4 hl2;have B0:=Y4 hbs;have Hsl:=Y4 hsl;clear hg hl hsp hl2 hbs hsl hmp hs3;by_cases hi28:i<28
 ·have hd_i:decide ((i:Int)<(28:Int))=true:=Yf;have i0_i:(0:Int)≤(i:Int):=by omega
  have i1_i:(i:Int)<(28:Int):=by omega
  obtain⟨c,hc⟩:∃ c,Ja[i]?=some c:=⟨Ja[i]'(show i<28 from hi28),Zz _⟩;have hrow':Xx wx (fun k=>w.heap.size≤k) (.slice Ap 28 Cp) Ja:=Rd.chg Hrow.o G0.o.chg (fun k hk e=>by have:=hU k e;omega);obtain⟨gp,op,cp,hvv,_,_,_,hgp,cz⟩:=Xx.get hrow' hc;rw[show Ja.length=28 from rfl]at hvv;simp only[Ye,Zls]at hvv;obtain⟨rfl,rfl⟩:=hvv;have Hc:=Y4 hc;clear hc hrow';go_upto_region 4 with fail;go_cut [32] (fun o wq=>∃ q:Bool,o=.bool q∧We B s wx wq∧(q=true→c∈([947,7684,128512]:List Int)));case first =>
   by_cases h1:c=128512
   ·have e1:(c==128512)=true:=by simp[h1]
    have Hin:=Y4 (show c∈([947,7684,128512]:List Int) by simp[h1]);clear h1;go_wp2_with fail;go_meet;exact⟨_,rfl,We.start G0.o.src,fun _=>Hin.o⟩
   have e1:(c==128512)=false:=by simp[h1]
   clear h1;by_cases h2:c=7684
   ·have e2:(c==7684)=true:=by simp[h2]
    have Hin:=Y4 (show c∈([947,7684,128512]:List Int) by simp[h2]);clear h2;go_wp2_with fail;go_meet;exact⟨_,rfl,We.start G0.o.src,fun _=>Hin.o⟩
   have e2:(c==7684)=false:=by simp[h2]
   clear h2;by_cases h3:c=947
   ·have e3:(c==947)=true:=by simp[h3]
    have Hin:=Y4 (show c∈([947,7684,128512]:List Int) by simp[h3]);clear h3;go_wp2_with fail;refine(Xh s 2 (by omega) (by omega) _ B G0.o.src).mono ?_;rintro e w5 ⟨v5,hv5,rfl,h5⟩;obtain⟨q5,hq5⟩:=gnX (((v5:Int)==0));have hq6:(v5==0)=q5:=by rw[← hq5,Zkw];simp
    go_wp2_with fail;go_meet;exact⟨_,rfl,h5,fun _=>Hin.o⟩
   have e3:(c==947)=false:=by simp[h3]
   clear h3;go_wp2_with fail;go_meet;exact⟨_,rfl,We.start G0.o.src,fun h=>by cases h⟩
  obtain⟨q,rfl,hT,hin⟩:=hcut;have Hin:=Y4 hin;rename World=>wc
  have hsw:=H.o.hU s H.o.us;have G1:=Y4 (G0.o.to hT);have S1:=Y4 (show Vv wc (fun k=>w1.heap.size≤k∧dv.ownBlock≠some k) u l from Rd.chg S0.o hT.chg (fun k hk e=>by have:=hk.1;omega));have B1:=Y4 (B0.o.chg hT.chg (show ¬ gs=s from hgs));obtain⟨si,hsi⟩:=geX (l:=st) (i:=i) (by rw[Hsl.o];exact hi28);have Hsi:=Y4 hsi;have Hsb:=Y4 (Hs3.o i si (Yn _) hsi);clear hT cz hin hsi;go_upto_if 32 with fail;go_cut [] (fun wq=>∃ (dv:Value) (dec:List MpS) (st:List Int) (si:Int),Ue U w1 wq B b s (cs.set 5 u) 8 dv dec∧dec.length≤i+1∧Vv wq (fun k=>w1.heap.size≤k∧dv.ownBlock≠some k) u l∧Xo wq gs (st.map iV)∧st.length=28∧st[i]?=some si∧Zne (dec.map Subtype.val) l i c si∧(∀ (j:Nat) z,i<j→st[j]?=some z→0≤z∧z≤4∧z≠3));case first =>
   cases q with
   | false =>
    go_wp2_with fail;go_meet;exact⟨_,_,_,si,G1.o,by have:=Hl.o;omega,S1.o,B1.o,Hsl.o,Hsi.o,Hmp.o.same c Hsb.o.2.1 Hsb.o.2.2,fun j z hj h=>Hs3.o j z (by omega) h⟩
   | true =>
    go_wp2_with fail;refine(Xh s 3 (by omega) (by omega) _ B G1.o.src).mono ?_;rintro e w2 ⟨v2,hv2,rfl,h2⟩;have T2:=Y4 h2;clear h2;obtain⟨z2,hz2⟩:∃ z:Int,97+(v2:Int)=z:=⟨_,rfl⟩;have rz:IntKind.i64.wrap (97+(v2:Int))=z2:=by rw[Yp _ (by omega)];exact hz2
    have Hz2:=Y4 (show 97≤z2∧z2≤99 by omega);clear hz2;have hslc:=G1.o.src.lt;have hw2:=T2.o.chg.size;have M0:=Y4 (show Mk B s wc ((w2.alloc (.cells #[.int .i64 z2] 3)).alloc (.cells #[.int .i64 c,.slice (some ⟨w2.heap.size,0,none⟩) 1 1] 106)) (w2.heap.size+1) c (.slice (some ⟨w2.heap.size,0,none⟩) 1 1) [z2] from
     ⟨(T2.o.alloc _).alloc _,Zqd w2 z2 c _ _,(Zzy w2 z2 _ hw2).ext ((Yl _).alloc _),by simp[Value.ownBlock],by omega,by simp,by simp,hslc⟩)
    go_upto_region 6 with fail;obtain⟨mb,hmb⟩:=gnX (w2.heap.size+1);obtain⟨tb,htb⟩:=gnX (w2.heap.size);obtain⟨W3,hW3⟩:=gnX ((w2.alloc (.cells #[.int .i64 z2] 3)).alloc (.cells #[.int .i64 c,.slice (some ⟨w2.heap.size,0,none⟩) 1 1] 106));rw[hW3,hmb,htb]at M0;rw[hW3,hmb,htb];clear hW3 hmb htb T2 hslc hw2 rz;go_wp2_with fail;refine(Xh s 2 (by omega) (by omega) _ B M0.o.t.src).mono ?_;rintro e w4 ⟨v4,hv4,rfl,h4⟩;have M1:=Y4 (M0.o.next h4);clear h4 M0;go_upto_if 41 with fail;go_cut [] (fun wq=>∃ (tv:Value) (to3:List Int),Mk B s wc wq mb c tv to3∧∃ v:Int,97≤v∧v≤99∧(to3=[v]∨to3=[v,46]));case first =>
     by_cases hv0:v4=0
     ·subst hv0;have c0:=(M1.o).box.at_ 0 (by simp);have c1:=(M1.o).box.at_ 1 (by simp);have fz:=(M1.o).box.fz;simp only[Zx,Zw]at c0 c1;have hml:=M1.o.box.lt;go_wp2_with (at_builtin;refine Mz Wi _ _ _ rfl rfl rfl rfl (M1.o.own.ext ((Yl _).alloc _)) rfl (Wv w4 46 _ _ rfl) (by show 1+1≤maxLen;unfold maxLen;omega) (by show(1+1)*8≤_;omega) (by have:=M1.o.t.chg.size;simp;omega) ?_;intro A8 n8 c8 w8 hg8;have M8:=Y4 (M1.o.grow rfl hg8);have cm8:=Y4 ((M1.o.box.ext ((Yl _).alloc (.cells #[.int .i64 46] 3))).chg hg8.chg (fun e=>M1.o.ne e));have c8':=cm8.o.at_ 1 (by simp);have f8:=cm8.o.fz;simp only[Zx,Zw]at c8';clear hg8);go_meet;exact⟨_,_,M8.o,z2,Hz2.o.1,Hz2.o.2,.inr rfl⟩
     have e1:((v4:Int)==0)=false:=by simp;omega
     have e2:(v4==0)=false:=by simp;omega
     have e3:¬ (v4:Int)=0:=by omega
     clear hv0;go_wp2_with fail;go_meet;exact⟨_,_,M1.o,z2,Hz2.o.1,Hz2.o.2,.inl rfl⟩
    obtain⟨tv,to3,hM,hto3⟩:=hcut;rename World=>w5
    have M2:=Y4 hM;have Hto3:=Y4 hto3;clear hM M1 hto3;go_wp2_with fail;refine(Xh s 3 (by omega) (by omega) _ B M2.o.t.src).mono ?_;rintro e wk ⟨v6,hv6,rfl,h6⟩;have M3:=Y4 (M2.o.next h6);clear h6 M2;have G3:=Y4 (G1.o.to M3.o.t);have S3:=Y4 (show Vv wk (fun k=>w1.heap.size≤k∧dv.ownBlock≠some k) u l from Rd.chg S1.o M3.o.t.chg (fun k hk e=>by have:=hk.1;omega));have B3:=Y4 (B1.o.chg M3.o.t.chg (show ¬ gs=s from hgs));by_cases hv0:0<v6
    ·have d1:decide ((0:Int)<(v6:Int))=true:=Yf;obtain⟨A11,C11,rfl,hlC11,hC11⟩:=G3.o.dOwn.shape;have c11:=G3.o.cx (by simp[hcl]);have c11a:(wk.alloc (.cells #[.int .i64 c,tv] 106)).cell? ⟨b,8,none⟩=some (.slice A11 dec.length C11):=(G3.o.ext ((Yl _).alloc _)).cx (by simp[hcl]);have Hr7:=Y4 (show Xx wk (fun k=>w1.heap.size≤k∧(Value.slice A11 dec.length C11).ownBlock≠some k) tv to3 from by
      have h1:Xx wk (fun k=>wc.heap.size≤k) tv to3:=M3.o.own.rd;have h2:=G1.o.chg.size;exact Rd.mono h1 fun k hk _=>⟨by omega,fun e=>by have:=(G1.o.dOwn.lt k e).2;omega⟩)
     obtain⟨At,Ct,rfl,hlt3,hct3⟩:=M3.o.own.shape;obtain⟨nt,hnt⟩:=gnX (to3.length);rw[hnt]at M3 hlt3 Hr7 c11a;have Hnt:=Y4 hnt;have Htl:=Y4 (show to3.length≤2 from M3.o.l2);obtain⟨n11,hn11⟩:=gnX (dec.length);rw[hn11]at c11 c11a G3 Hr7 hlC11 S3;have Hn11:=Y4 hn11;have hn5:n11≤28:=by have:=Hl.o;omega
     unfold maxLen at hC11 hct3;have c0:=(M3.o).box.at_ 0 (by simp);have c1:=(M3.o).box.at_ 1 (by simp);have fz:=(M3.o).box.fz;simp only[Zx,Zw]at c0 c1;clear hn11 hnt G1 S1 B1;go_upto_region 9 with fail;go_region_law (first
      | ((refine Vq mpE (.tmp 54) (.tmp 56) 32 (by rfl) (by rfl) (by rfl) (by rfl) (G3.o.dOwn.ext ((Yl _).drew.alloc _)) (by rfl) (Zuw wk.drew c At nt Ct to3 _ _ rfl) (by rw[Hn11.o];show n11+1≤_;omega) (by show 32≤1000;omega) (by have:=G3.o.chg.size;simp;omega) ?_);intro A8 n8 c8 w8 hg8;have G8:=Y4 ((G3.o.ext (Yl _).drew).grow (by simp[hcl]) (Hr7.o.ext (Yl _).drew) (by show to3.length≤18;have:=Htl.o;omega) hg8);have c8':w8.cell? ⟨b,8,none⟩=some (.slice A11 n11 C11):=((((G3.o.ext (Yl _).drew).ext ((Yl _).alloc _)).box.chg hg8.chg (fun e=>by have:=(G3.o.dOwn.lt b e).1;have:=hU b G3.o.ub;omega)).at_ 8 (by simp[hcl])).trans (by simp[Yv,hcl]);have f8:=((((G3.o.ext (Yl _).drew).ext ((Yl _).alloc _)).box.chg hg8.chg (fun e=>by have:=(G3.o.dOwn.lt b e).1;have:=hU b G3.o.ub;omega)).fz);have S8:=Y4 (Zr7 (G3.o.ext (Yl _).drew) (Vv.ext S3.o (Yl _).drew) hg8 (.slice A8 n8 c8));have B8:=Y4 ((((B3.o.ext (Yl _).drew).ext ((Yl _).alloc _)).chg hg8.chg (fun e=>by have:=(G3.o.dOwn.lt gs e).1;have:=hU gs hug;omega)).far (j:=8) (c:=b) hgb (.slice A8 n8 c8));have fg8:=B8.o.fz i;have cg8:=B8.o.at_ i (by rw[Zq,Hsl.o];exact hi28);clear hg8))
     all_goals
      rw[Zn,Hsi.o]at cg8;simp only[Zk3]at cg8;go_wp2_with fail;go_meet;refine⟨_,_,st.set i 3,3,G8.o.far hug hgb hgs hBg _,by rw[Zs,Hn11.o];show n11+1≤i+1;have:=Hl.o;have:=Hn11.o;omega,?_,?_,by rw[Zf];exact Hsl.o,Zc (by rw[Hsl.o];exact hi28),?_,fun j z hj h=>Hs3.o j z (by omega) (by rwa [Zb (by omega)]at h)⟩
      ·exact Rd.chg S8.o ((Chg.refl (· = gs) _).setCell (p:=⟨gs,i,none⟩) (.inl rfl) _) (fun k hk e=>by have:=hk.1;have:=hU gs hug;omega)
      ·have:=B8.o.set (j:=i) (by rw[Zq,Hsl.o];exact hi28) (.int .i64 3);rw[Zj4];exact this
      rw[Yy];exact Hmp.o.more ⟨c,.slice At nt Ct,to3⟩ (by first|exact Hin.o rfl|exact Hin.o trivial) Hto3.o
    have d1:decide ((0:Int)<(v6:Int))=false:=Yg;go_wp2_with fail;go_meet;exact⟨_,_,_,si,G3.o,by have:=Hl.o;omega,S3.o,B3.o,Hsl.o,Hsi.o,Hmp.o.same c Hsb.o.2.1 Hsb.o.2.2,fun j z hj h=>Hs3.o j z (by omega) h⟩
  clear G0 S0 B0 G1 S1 B1 Hl Hsl Hmp Hs3 Hsi Hsb si;obtain⟨dv,dec,st,si,hg,hl,hs,hb,hsl,hsi,hmq,hs3⟩:=hcut;rename World=>w5
  have G4:=Y4 hg;have Hl:=Y4 hl;have S4:=Y4 hs;have B4:=Y4 hb;have Hsl:=Y4 hsl;have Hmq:=Y4 hmq;have Hs3:=Y4 hs3;clear hg hl hs hb hsl hmq hs3;have cg:=B4.o.at_ i (by rw[Zq,Hsl.o];exact hi28);rw[Zn,hsi]at cg;simp only[Zk3]at cg;have mg:=lat cg;clear hsi;go_upto_region 11 with fail;go_region_with (go_at_call 46;refine(add_any b 5 ((cs.set 5 u).set 8 dv) u l c c 0 si _ ((G4.o.ext (Yl _).drew).box) (by simp[Yv,hcl]) (Vv.ext S4.o (Yl _).drew) (fun e=>by have:=hU b G4.o.ub;have:=e.1;omega) (by have:=Hl2.o;omega)).mono ?_;rintro e w7 ⟨u7,l7,rfl,hb7,hs7,hl7,hc7⟩;have B7:=Y4 hb7;have S7:=Y4 hs7;have L7:=Y4 hl7;have C7:=Y4 hc7;clear hb7 hs7 hl7 hc7);all_goals
   go_wp2_with fail;go_roundw;case rel =>
    refine⟨i+1,dv,dec,u7,l7,st,by omega,by go_num,?_,Hl.o,?_,by have:=(Hmq.o.next Hc.o (by rcases L7.o with h|h;exact .inl h;exact .inr ⟨by have:=h.1;omega,h.2⟩)).sp.len;omega,?_,Hsl.o,Hmq.o.next Hc.o (by rcases L7.o with h|h;exact .inl h;exact .inr ⟨by have:=h.1;omega,h.2⟩),fun j z hj h=>Hs3.o j z (by omega) h⟩
    ·have:=(G4.o.ext (Yl _).drew).cell (j:=5) (by omega) B7.o C7.o
     rwa [Zjj]at this
    ·exact Rd.mono S7.o fun k hk _=>by
      rcases hk with hk|hk
      ·exact hk
      have h9:=G4.o.chg.size;have hk':w5.heap.size≤k:=hk;exact⟨by omega,fun e=>by have:=(G4.o.dOwn.lt k e).2;omega⟩
    exact((B4.o.ext (Yl _).drew).chg C7.o hgb)
   case measure=>(simp[intOf];omega)
 have hd_i:decide ((i:Int)<(28:Int))=false:=Yg;go_wp2_with fail;refine Ys (v:=.tuple #[]) (by simp[results,Tryz.results48,go_sem]) rfl ⟨dv,dec,u,l,rfl,G0.o.back HX1.o hU,by have:=Hl.o;omega,Rd.mono S0.o fun k hk _=>by have:=hk.1;omega,by have:=Hl2.o;omega,by have:=Hmp.o;rwa [show i=28 by omega]at this⟩
end Go.Proofs.YtnbclgbicnpmnaaGreat
