/- Lemmas of this claim: Ex32, Aw32, Law32f. Conditions: as named. -/
import Derived.Test.YtnbclgbicnpmnaaGreatA45
namespace Go.Proofs.YtnbclgbicnpmnaaGreat
open Go.RowKit Go.Sort Tryz
set_option maxHeartbeats 0
set_option maxRecDepth 100000
set_option linter.all false
def nmA:Nm:=⟨⟨#[97]⟩,⟨#[97]⟩,⟨#[97]⟩⟩
def Zke:Rc:=⟨0,0,⟨#[]⟩,0⟩
def exL(nv:Value):List Opn:=[⟨0,1,5,nv,[nmA],⟨0,0,⟨#[]⟩,Zke,0⟩,0,9,12,⟨24,0,⟨#[97]⟩,Zke,0⟩⟩,⟨1,1,5,nv,[nmA],⟨0,0,⟨#[]⟩,Zke,0⟩,1,5,11,⟨0,-1,⟨#[]⟩,Zke,0⟩⟩]
theorem Zo2(nv:Value):Kf (exL nv)=[1,0]:=by
 refine(Zxf.unique ⟨Zj5.2 ⟨fun j hj=>by rw[Zi.1 hj];rfl,List.pairwise_singleton _ _⟩,fun i=>?_⟩ (Jn (exL nv))).symm
 match i with
 | 0=>exact⟨fun _=>rfl,fun _=>by simp⟩
 | 1=>exact⟨fun _=>rfl,fun _=>by simp⟩
 | i+2=>exact⟨fun h=>by simp at h,fun h=>by have h2:Fs (exL nv) (i+2)=false:=rfl;rw[h2]at h;simp at h⟩
theorem Zlw(nv:Value):Vd 2 1 (exL nv) 50=([1,0],3,0):=by kernel_rfl
theorem Zm9(nv:Value):(Bm 2 1 (exL nv)).2=0:=by
 unfold Bm;rw[Zo2]
 kernel_rfl
theorem Ch(w:World):Calls prog 55 #[] w fun e w'=>e=.returned (.slice (some ⟨w.heap.size+1,0,none⟩) 2 2)∧w'=(w.alloc (.cells #[.string ⟨#[97]⟩,.string ⟨#[97]⟩,.string ⟨#[97]⟩] 109)).alloc (.cells (Gj (exL (.slice (some ⟨w.heap.size,0,none⟩) 1 1))).toArray 55):=by
 go_enter func55,ntmps55;go_wp2_with fail;go_ret;exact⟨rfl,rfl⟩
theorem Zmd(w:World)(l:List Opn)(t:TypeId)(b:Nat)(hb:w.heap[b]?=some (.cells (Gj l).toArray t))(S:Nat→Prop)(hS:S b)(hl:l.length≤1000)(hn:∀ o∈l,Vw w S o.nv o.ns):V6 w S (.slice (some ⟨b,0,none⟩) l.length l.length) l:=by
 refine⟨⟨En l,_,_,rfl,Yn _,by unfold maxLen;omega,fun _=>⟨b,0,rfl,hS,(Zjz.1 hb).1,fun j u hu=>?_⟩⟩,hn⟩;simp only[World.cell?,hb];rw[Zjd,← hu];simp
theorem Zmh(w:World)(b:Nat)(t:TypeId)(hb:w.heap[b]?=some (.cells #[.string ⟨#[97]⟩,.string ⟨#[97]⟩,.string ⟨#[97]⟩] t))(S:Nat→Prop)(hS:S b):Vw w S (.slice (some ⟨b,0,none⟩) 1 1) [nmA]:=by
 refine⟨rfl,_,_,rfl,Yn _,by unfold maxLen;omega,fun _=>⟨b,0,rfl,hS,(Zjz.1 hb).1,fun j u hu=>?_⟩⟩;simp only[World.cell?,hb];rw[Zjd,← hu];simp[Wm,nmA];rfl
theorem P5(nv:Value):(∀ o∈exL nv,o.fits)∧Sz (exL nv):=by
 unfold exL Sz;refine⟨fun o ho=>?_,fun o ho n hn=>?_⟩
 ·simp only[Zg,Zh,Zin]at ho;rcases ho with rfl|rfl<;>exact⟨by unfold I64;simp;done,by unfold I64;simp;done⟩
 simp only[Zg,Zh,Zin]at ho;rcases ho with rfl|rfl<;>(rw[Zi.1 hn];exact Zjw (show nmA.k.size≤1 from Yn _) (by unfold maxLen;omega))
theorem Zl8(w:World):V6 ((w.alloc (.cells #[.string ⟨#[97]⟩,.string ⟨#[97]⟩,.string ⟨#[97]⟩] 109)).alloc (.cells (Gj (exL (.slice (some ⟨w.heap.size,0,none⟩) 1 1))).toArray 55)) (fun k=>w.heap.size≤k) (.slice (some ⟨w.heap.size+1,0,none⟩) 2 2) (exL (.slice (some ⟨w.heap.size,0,none⟩) 1 1)):=by
 refine Zmd _ (exL _) 55 (w.heap.size+1) ?_ _ (Zio _) (by simp[exL]) (fun o ho=>?_)
 ·have:=Zjc (w.alloc (.cells #[.string ⟨#[97]⟩,.string ⟨#[97]⟩,.string ⟨#[97]⟩] 109)) (.cells (Gj (exL (.slice (some ⟨w.heap.size,0,none⟩) 1 1))).toArray 55)
  rwa [show(w.alloc (.cells #[.string ⟨#[97]⟩,.string ⟨#[97]⟩,.string ⟨#[97]⟩] 109)).heap.size=w.heap.size+1 by simp]at this
 have hb:((w.alloc (.cells #[.string ⟨#[97]⟩,.string ⟨#[97]⟩,.string ⟨#[97]⟩] 109)).alloc (.cells (Gj (exL (.slice (some ⟨w.heap.size,0,none⟩) 1 1))).toArray 55)).heap[w.heap.size]?=some (.cells #[.string ⟨#[97]⟩,.string ⟨#[97]⟩,.string ⟨#[97]⟩] 109):=by
  rw[Zgp _ _ _ (by simp)];exact Zjc w _
 have:=Zmh _ w.heap.size _ hb (fun k=>w.heap.size≤k) (Yn _);simp only[exL,Zg,Zh,Zin]at ho;rcases ho with rfl|rfl<;>exact this
theorem Zxx(va vb:Value)(l:List Nat)(S T:Nat→Prop)(w:World)(ha:Vo w S va l)(hb:Vo w T vb l)(hl:l.length≤1000000) :
 Calls prog 26 #[va,vb] w fun e w'=>e=.returned (.bool true)∧Ext w w':=by
 obtain⟨n,hln⟩:=gnX (l.length);have Ha:=Y4 ha;have Hb:=Y4 hb;have Hln:=Y4 hln;obtain⟨_,A,ca,rfl,ha1,ha2,_⟩:=ha;obtain⟨_,B,cb,rfl,hb1,hb2,_⟩:=hb;unfold maxLen at ha2 hb2;rw[hln]at ha1 hb1 hl⊢;clear hln;go_enter func26,ntmps26;go_wp2_with fail;go_loopw [13] (fun o wr=>∃ i:Nat,i≤n∧o=.int .i64 (i:Int)∧Ext w wr) (fun o _=>n-(intOf o).toNat);case atStart=>exact⟨0,by omega,rfl,Yl _⟩
 obtain⟨i,hi,rfl,hx⟩:=hrel;by_cases hin:i<n
 ·have hd:decide ((i:Int)<(n:Int))=true:=by simpa using hin
  obtain⟨x,hxx⟩:∃ x,l[i]?=some x:=⟨l[i]'(by have:=Hln.o;omega),by simp⟩;obtain⟨ga,oa,c1,e1,_,_,_,hc1⟩:=Vo.get (Ha.o.ext hx) hxx;obtain⟨gb,ob,c2,e2,_,_,_,hc2⟩:=Vo.get (Hb.o.ext hx) hxx;rw[Hln.o]at e1 e2;simp only[Ye]at e1 e2;obtain⟨rfl,_,rfl⟩:=e1;obtain⟨rfl,_,rfl⟩:=e2;obtain⟨_,d1⟩:=hc1;obtain⟨_,d2⟩:=hc2;have i0:(0:Int)≤(i:Int):=by omega
  have i1:(i:Int)<(n:Int):=by omega
  have Hx:=Y4 hx;clear hx hxx;go_wp2_with fail;go_quiet (fail);go_wp2_with fail;go_roundw;case rel=>exact⟨i+1,by omega,by go_num,Hx.o.drewN _⟩
  simp[intOf];omega
 have hd:decide ((i:Int)<(n:Int))=false:=by simp;omega
 go_wp2_with fail;go_ret;exact⟨rfl,hx⟩
theorem Bv(w:World):Calls prog 55 #[] w fun e w'=>∃ v nv,e=.returned v∧V6 w' (fun k=>w.heap.size≤k) v (exL nv)∧Ext w w':=by
 refine(Ch w).mono ?_;rintro e w' ⟨rfl,rfl⟩;exact⟨_,_,rfl,Zl8 w,((Yl w).alloc _).alloc _⟩
theorem Zy0(w:World)(t:TypeId):Vo (w.alloc (.cells #[.int .i64 1,.int .i64 0] t)) (fun _=>True) (.slice (some ⟨w.heap.size,0,none⟩) 2 2) [1,0]:=by
 have h1:(w.alloc (.cells #[.int .i64 1,.int .i64 0] t)).heap[w.heap.size]?=some (.cells #[.int .i64 1,.int .i64 0] t):=Zjc w _;refine⟨rfl,_,_,rfl,Yn _,by unfold maxLen;omega,fun _=>⟨w.heap.size,0,rfl,trivial,(Zjz.1 h1).1,fun j u hu=>?_⟩⟩;simp only[World.cell?,h1];rw[Zjd,← hu];simp[Zwb]
theorem Ly(w:World):Calls prog 21 #[] w fun e w'=>e=.returned (.bool true)∧Ext w w':=by
 go_enter func21,ntmps21;go_wp2_with fail;go_upto_region 2 with fail;refine Zjo (S:=fun w'=>w'.cell? ⟨w.heap.size,0,none⟩=some (.int .i64 2)∧w'.cell? ⟨w.heap.size,1,none⟩=some (.int .i64 1)) (by kernel_rfl) ?_ (fun hHeld=>?_)
 ·exact⟨by go_simp,by go_simp⟩
 refine Zih (i:=0) (oi:=_) (v:=?_) rfl (by kernel_rfl) (by kernel_rfl) (by kernel_rfl) (fun _ _ _ h=>h) (Or.inl ⟨by rfl,?_⟩) (by assumption) ?_;rotate_left;(focus((intro w hSw;(try dsimp only at hSw);go_simp);(first|done|(with_reducible rfl))));(try simp only[Act.put]);(try simp only[Zv]);refine Zjv (rs:=[1]) (by kernel_rfl) (by simp) ?_;refine Yr (o:=_) rfl (fun K hK=>?_) Yq;go_simp;have c0:(w.alloc (.cells #[.int .i64 2,.int .i64 1] 37)).drew.cell? ⟨w.heap.size,0,none⟩=some (.int .i64 2):=by go_simp
 have c1:(w.alloc (.cells #[.int .i64 2,.int .i64 1] 37)).drew.cell? ⟨w.heap.size,1,none⟩=some (.int .i64 1):=by go_simp
 have hb:w.heap.size<(w.alloc (.cells #[.int .i64 2,.int .i64 1] 37)).drew.heap.size:=by simp[World.drew]
 have X0:Ext w (w.alloc (.cells #[.int .i64 2,.int .i64 1] 37)).drew:=((Yl w).alloc _).drew;refine(Bv _).mono ?_;rintro x w2 ⟨v2,nv2,rfl,ho2,hx2⟩;replace c0:=(hx2.cell (p:=⟨w.heap.size,0,none⟩) hb).trans c0;replace c1:=(hx2.cell (p:=⟨w.heap.size,1,none⟩) hb).trans c1;replace hb:=Zk8 hb hx2.size;have Ho2:=Y4 ho2;have X2:=Y4 (X0.trans hx2);clear ho2 hx2 X0;go_simp;refine hK.out _ _ ⟨c0,c1⟩ (fun hHeld=>?_);clear hK K;try simp only[Act.put,Zv,Zu,Zt]
 refine Zjv (rs:=[2]) (by kernel_rfl) (by simp) ?_;refine Yr (o:=_) rfl (fun K hK=>?_) Yq;go_simp;refine(Pp 2 1 50 _ _ _ Ho2.o (P5 nv2).1 (P5 nv2).2).mono ?_;rintro x w3 ⟨v3,rfl,hn3,hx3⟩;rw[Zlw]at hn3⊢;replace c0:=(hx3.cell (p:=⟨w.heap.size,0,none⟩) hb).trans c0;replace c1:=(hx3.cell (p:=⟨w.heap.size,1,none⟩) hb).trans c1;replace hb:=Zk8 hb hx3.size;have Hn3:=Y4 hn3;have X3:=Y4 (X2.o.trans hx3);clear hn3 hx3;go_simp;refine hK.out _ _ ⟨c0,c1⟩ (fun hHeld=>?_);clear hK K;try simp only[Act.put,Zv,Zu,Zt]
 refine Xv [3,4,5,6,7,8,9] 0 (by rfl) (by kernel_rfl) (by kernel_rfl) (fun _ _ d _ _ h=>by cases d<;>exact h) (by assumption) ?_;simp only[Z3,Z4,Z5,Zw,Zx];repeat(refine Xu (v:=?_) (by kernel_rfl) ?_ ?_;rotate_left;(focus((intro w hSw;(try dsimp only at hSw);go_simp);(first|done|(with_reducible rfl))));(try simp only[Act.put]);(try simp only[Zv]))
 refine Xs ?_;refine Zjf (by kernel_rfl) ?_ _;go_simp;clear hHeld;go_upto_region 3 with fail;refine Zjo (S:=fun w'=>w'.cell? ⟨w.heap.size,0,none⟩=some (.int .i64 2)∧w'.cell? ⟨w.heap.size,1,none⟩=some (.int .i64 1)) (by kernel_rfl) ?_ (fun hHeld=>?_)
 ·exact⟨by go_simp,by go_simp⟩
 refine Zih (i:=0) (oi:=_) (v:=?_) rfl (by kernel_rfl) (by kernel_rfl) (by kernel_rfl) (fun _ _ _ h=>h) (Or.inl ⟨by rfl,?_⟩) (by assumption) ?_;rotate_left;(focus((intro w hSw;(try dsimp only at hSw);go_simp);(first|done|(with_reducible rfl))));(try simp only[Act.put]);(try simp only[Zv]);refine Zjv (rs:=[1]) (by kernel_rfl) (by simp) ?_;refine Yr (o:=_) rfl (fun K hK=>?_) Yq;go_simp;refine(Bv _).mono ?_;rintro x w4 ⟨v4,nv4,rfl,ho4,hx4⟩;replace c0:=(hx4.cell (p:=⟨w.heap.size,0,none⟩) hb).trans c0;replace c1:=(hx4.cell (p:=⟨w.heap.size,1,none⟩) hb).trans c1;replace hb:=Zk8 hb hx4.size;have Ho4:=Y4 ho4;have Hn4:=Y4 (Hn3.o.ext (Yh (Yl w3).drew hx4));have X4:=Y4 (X3.o.trans (Yh (Yl w3).drew hx4));clear ho4 hx4;go_simp;refine hK.out _ _ ⟨c0,c1⟩ (fun hHeld=>?_);clear hK K;try simp only[Act.put,Zv,Zu,Zt]
 refine Zjv (rs:=[2]) (by kernel_rfl) (by simp) ?_;refine Yr (o:=_) rfl (fun K hK=>?_) Yq;go_simp;refine(Zw9 2 1 _ _ _ Ho4.o (P5 nv4).1 (P5 nv4).2).mono ?_;rintro x w5 ⟨rfl,hx5⟩;rw[Zm9];replace c0:=(hx5.cell (p:=⟨w.heap.size,0,none⟩) hb).trans c0;replace c1:=(hx5.cell (p:=⟨w.heap.size,1,none⟩) hb).trans c1;have Hn5:=Y4 (Hn4.o.ext hx5);have X5:=Y4 (X4.o.trans hx5);clear hx5;go_simp;refine hK.out _ _ ⟨c0,c1⟩ (fun hHeld=>?_);clear hK K;try simp only[Act.put,Zv,Zu,Zt]
 refine Xv [3,4,5,6,7] 0 (by rfl) (by kernel_rfl) (by kernel_rfl) (fun _ _ d _ _ h=>by cases d<;>exact h) (by assumption) ?_;simp only[Z3,Z4,Z5,Zw,Zx];repeat(refine Xu (v:=?_) (by kernel_rfl) ?_ ?_;rotate_left;(focus((intro w hSw;(try dsimp only at hSw);go_simp);(first|done|(with_reducible rfl))));(try simp only[Act.put]);(try simp only[Zv]))
 refine Xs ?_;refine Zjf (by kernel_rfl) ?_ _;go_simp;clear hHeld c0 c1;go_wp2_with fail;refine(Zxx v3 _ [1,0] _ _ _ (Hn5.o.ext ((Yl _).alloc _)) (Zy0 _ _) (by simp)).mono ?_;rintro x w6 ⟨rfl,hx6⟩;have X6:=Y4 (X5.o.trans (((Yl w5).alloc _).trans hx6));clear hx6;go_wp2_with fail;refine(Bv _).mono ?_;rintro x w7 ⟨v7,nv7,rfl,ho7,hx7⟩;have Ho7:=Y4 ho7;have X7:=Y4 (X6.o.trans hx7);clear ho7 hx7;go_wp2_with fail;refine(Tc _ _ _ Ho7.o (by simp[exL])).mono ?_;rintro x w8 ⟨v8,rfl,hn8,hx8⟩;rw[Zo2]at hn8;have Hn8:=Y4 hn8;have X8:=Y4 (X7.o.trans hx8);clear hn8 hx8;go_wp2_with fail;refine(Zxx v8 _ [1,0] _ _ _ (Hn8.o.ext ((Yl _).alloc _)) (Zy0 _ _) (by simp)).mono ?_;rintro x w9 ⟨rfl,hx9⟩;have X9:=Y4 (X8.o.trans (((Yl w8).alloc _).trans hx9));clear hx9;go_wp2_with fail;go_ret;exact⟨rfl,X9.o⟩
theorem Zw8{cl cp:Int}{os:List Opn}(h:Bm cl cp os=(0,0)):V7 cl cp=0:=by
 refine(Lv (os:=os) ?_).1;unfold Bm at h;split at h
 ·rw[h]
 rename_i q;exact Classical.not_not.1 q
def Lx(o:OpS):OpS:=⟨Wh o.1,o.2⟩
theorem Dx(os:List OpS):(os.map Lx).map Subtype.val=(os.map Subtype.val).map Wh:=by
 rw[Zi6,Zi6];rfl
def bl(os:List OpS)(i:Nat):List OpS:=(os.take i).map Lx++os.drop i
theorem Zn4{os:List OpS}{i:Nat}{o:OpS}(h:os[i]?=some o):(bl os i).set i (Lx o)=bl os (i+1)∧(bl os i)[i]?=some o:=by
 have hi:=(Zr.1 h).1;have hl:((os.take i).map Lx).length=i:=by rw[Zq,Zp];omega
 have hd:os.drop i=o::os.drop (i+1):=K2 h;unfold bl;refine⟨?_,?_⟩
 ·rw[List.set_append_right _ _ (by omega),hl,Zgb,hd,Zu,Za,h,Yy,List.append_assoc];rfl
 rw[Zd (by omega),hl,Zgb,hd];rfl
theorem Zl4{os:List OpS}{n:Nat}(h:os.length=n):bl os n=os.map Lx:=by
 unfold bl;rw[Zm (by omega),Zim (by omega),Zgx]
theorem Zoi(os:List OpS)(i:Nat):(bl os i).length=os.length:=by
 unfold bl;rw[Zs,Zq,Zp,Yz];omega
def Zz0(ord:List Nat)(a:Nat):List Value:=(List.range 8).map fun i=>Value.bool ((ord.take a).contains i)
theorem Zs7{ord:List Nat}{a x:Nat}(h:ord[a]?=some x)(hx:x<8):(Zz0 ord a).set x (.bool true)=Zz0 ord (a+1):=by
 unfold Zz0;apply Zhd;intro i;rw[Za,h];by_cases hi:i<8
 ·rw[Yv,Zn,Zn,List.getElem?_range hi];simp only[Zil,Zq,Zi3];by_cases e:x=i
  ·subst e;rw[Zjx rfl,Zjx hx];simp
  rw[Zk9 e];simp[Ne.symm e]
 rw[Zhe (by simp;omega),Zhe (by simp;omega)]
theorem Zly{ord:List Nat}{a x:Nat}(hn:ord.Nodup)(h:ord[a]?=some x)(hx:x<8):(Zz0 ord a)[x]?=some (.bool false):=by
 unfold Zz0;rw[Zn,List.getElem?_range hx];simp only[Zil,Yd,Value.bool.injEq];cases hc:(ord.take a).contains x
 ·rfl
 exfalso;have hm:x∈ord.take a:=by simpa using hc
 obtain⟨q,hq⟩:=Zjr hm;have hql:=(Zr.1 hq).1;rw[Zp]at hql;rw[Ziu (by omega)]at hq;obtain⟨a1,a2⟩:=Zr.1 h;obtain⟨q1,q2⟩:=Zr.1 hq;exact Zjh.1 hn q a q1 a1 (by omega) (q2.trans a2.symm)
namespace historyFinds
theorem walk(a0:Option Addr)(len0 cap0:Nat)(z0:List Int)(a1:Option Addr)(len1 cap1:Nat)(z1:List Int)(a2:Option Addr)(len2 cap2:Nat)(z2:List Int)(w:World)
 (w0:IsRow .i64 w a0 len0 cap0 z0) (w1:IsRow .i64 w a1 len1 cap1 z1) (w2:IsRow .i64 w a2 len2 cap2 z2) :
 Calls prog 7 #[.slice a0 len0 cap0,.slice a1 len1 cap1,.slice a2 len2 cap2] w fun e w'=>e=.returned (.bool true)∧Below w.heap.size w w':=by
 have R0:=Y4 (Kd.of_row w0);have R1:=Y4 (Kd.of_row w1);have R2:=Y4 (Kd.of_row w2);clear w0 w1 w2;go_enter func7,ntmps7;go_wp2_with fail;refine(Zm5 _ _ _ _ _ _ _ _ _ true _ R0.o R1.o R2.o).mono ?_;rintro e wa ⟨cl,cp,v,os,rfl,ho,⟨hf,hexp,hans⟩,hxa⟩;obtain⟨A,C,rfl⟩:=ho.shape;obtain⟨n,hn⟩:=gnX (os.length);have hlm:(os.map Subtype.val).length=n:=by rw[Zq];exact hn
 rw[hlm];have Hn:=Y4 hn;have Hlm:=Y4 hlm;have HF:=Y4 hf;have HX:=Y4 hexp;have HA:=Y4 (hans rfl);have HC:=Y4 (Zw8 hexp.repl);have Oa:=Y4 ho;clear ho hf hexp hans hn hlm;go_upto_region 2 with fail;have CB:=Y4 (Xp.new wa #[.int .i64 cl,.int .i64 cp] 37);have xa:=(Yl wa).alloc (.cells #[.int .i64 cl,.int .i64 cp] 37);have Oa:=Y4 (by have h:=Oa.o.ext xa;rwa [Hlm.o]at h);have Xa:=Y4 (hxa.trans xa);obtain⟨cb,hcb⟩:=gnX (wa.heap.size);obtain⟨W1,hW1⟩:=gnX (wa.alloc (.cells #[.int .i64 cl,.int .i64 cp] 37));rw[hcb,hW1]at CB;rw[hW1]at Oa Xa;rw[hW1,hcb];clear hW1 hcb xa hxa;by_cases h6:6<n
 ·have d6:decide ((6:Int)<(n:Int))=true:=Yf;go_wp2_with fail;refine(Ly _).mono ?_;rintro e w9 ⟨rfl,hy9⟩;go_wp2_with fail;go_ret;exact⟨rfl,(Xa.o.trans hy9).below⟩
 have d6:decide ((6:Int)<(n:Int))=false:=Yg;have Hrd:=Y4 (show RdE opE W1 (fun _=>True) (.slice A n C) os from by have h1:=Oa.o.1;rw[Hlm.o]at h1;exact(show Rd W1 _ 23 _ os.length (Zpg os) by rw[Hn.o];exact h1));have Hnm:=Y4 (show ∀ o∈os,Vw W1 (fun j=>j<W1.heap.size) o.1.nv o.1.ns from fun o ho=>Rd.mono (Oa.o.2 o.1 (Zjs.2 ⟨o,ho,rfl⟩)) fun _ _ hl=>hl);go_upto_region 5 with(at_builtin;refine Bj opE _ _ _ rfl rfl rfl rfl (Own.nil opE W1 W1.heap.size) rfl Hrd.o (by rw[Hn.o];show 0+n≤maxLen;unfold maxLen;omega) (by rw[Hn.o];show(0+n)*232≤_;omega) (Yn _) ?_;intro A1 n1 c1 w1 hg1);have X1:=Y4 (hg1.ext W1 (Yl _) (Yn _));have O1:=Y4 (show I6 w1 W1.heap.size (.slice A1 n1 c1) (bl os 0) from⟨by have:=hg1.own;rw[Zo]at this;exact this,fun o ho=>Rd.ext (Hnm.o o ho) X1.o⟩);have en:n=n1:=by have:=hg1.len;rw[Zo]at this;rw[this];exact Hn.o.symm
 subst en;clear hg1 Hrd Hnm;obtain⟨H0,hH0⟩:=gnX (W1.heap.size);rw[hH0]at O1;have HH0:=Y4 hH0;clear hH0;go_wp2_with fail;go_loopw [39] (fun o wr=>∃ i:Nat,i≤n∧o=.int .i64 (i:Int)∧I6 wr H0 (.slice A1 n c1) (bl os i)∧Ext W1 wr) (fun o _=>n-(intOf o).toNat);case atStart=>exact⟨0,by omega,rfl,O1.o,X1.o⟩
 obtain⟨i,hi,rfl,ho,hx⟩:=hrel;rename World=>wr
 have Ho:=Y4 ho;have Hx:=Y4 hx;clear ho hx O1 X1;by_cases hlt:i<n
 ·obtain⟨hd_i,i0_i,i1_i⟩:=LTl i n;obtain⟨o,hoi⟩:=geX (l:=os) (i:=i) (by rw[Hn.o];exact hlt);obtain⟨hb1,hb2⟩:=Zn4 hoi;obtain⟨g,c',hv,hHg,hgl,hnc,hcm⟩:=Ho.o.own.some_ (by rw[Zoi,Hn.o];omega);rw[Zoi,Hn.o]at hv hnc;simp only[Ye,Zjj]at hv;obtain⟨rfl,rfl⟩:=hv;have hOc:∀ f v,(opC o.1)[f]?=some v→wr.cell? ⟨g,i*23+f,none⟩=some v:=fun f v hv=>by
   have h23:f<23:=by have:=(Zr.1 hv).1;rw[Kv]at this;exact this
   refine Own.at_ Ho.o.own ?_;show(Gj ((bl os i).map Subtype.val))[i*23+f]?=_;rw[Rr (o:=o.1) (by rw[Zn,hb2];rfl) f h23,hv]
  have fz:∀ j,wr.frozen? ⟨g,j,none⟩=false:=fun j=>Own.thaw Ho.o.own j
  have cA:=hOc 14 _ rfl;have cD:=hOc 13 _ rfl;obtain⟨_,ha0,ha1⟩:=HA.o o.1 (Zjs.2 ⟨o,Zy hoi,rfl⟩);obtain⟨z,hz⟩:=gnX (o.1.ans-1);have rz:IntKind.i64.wrap (o.1.ans-1)=z:=by rw[Yp _ (by omega)];exact hz
  have O2:=Y4 (by
   have h:=Ho.o.set (z:=i) (f:=13) (o:=o) (o':=Lx o) (vs:=[.int .i64 z]) hb2 (by show 13+1≤23;omega) (by rw[← hz];rfl) (Ho.o.nms o (Zy hb2));rw[hb1]at h;exact h)
  have X2:=Y4 (Ya (p:=⟨g,i*23+13,none⟩) Hx.o (by show W1.heap.size≤g;rw[HH0.o];exact hHg) (.int .i64 z));have i2:i<n:=hlt;clear hoi hb1 hb2 hOc ha0 ha1 hz;go_wp2_with fail;go_roundw;case rel=>exact⟨i+1,by omega,by go_num,O2.o,X2.o⟩
  (simp[intOf];omega)
 have hd_i:=GEl i n;obtain rfl:i=n:=by omega
 have O3:=Y4 (show V6 wr (fun _=>True) (.slice A1 i c1) ((os.map Subtype.val).map Wh) from by
  have h:=Ho.o.opsAt;rw[Zl4 Hn.o,Dx]at h;exact h)
 have Fb:=Y4 (show Zqz (os.map Lx) from⟨by rw[Zq];exact HF.o.1,fun o ho=>by
  obtain⟨p,hp,rfl⟩:=Zjs.1 ho;obtain⟨f1,f2,f3,f4⟩:=HF.o.2 p hp;obtain⟨_,ha0,ha1⟩:=HA.o p.1 (Zjs.2 ⟨p,hp,rfl⟩);exact⟨f1,(by show I64 (p.1.ans-1);unfold I64;omega),f3,f4⟩⟩)
 have Fb1:=Y4 (show ∀ o∈(os.map Subtype.val).map Wh,o.fits from by rw[← Dx];exact Fb.o.fits);have Fb2:=Y4 (show Sz ((os.map Subtype.val).map Wh) from by rw[← Dx];exact Fb.o.keys);have Oc:=Y4 (Oa.o.ext Hx.o);have Cc:=Y4 (CB.o.ext Hx.o);have Xc:=Y4 (Xa.o.trans Hx.o);have c0:=Cc.o.at_ 0 (by simp);have c1':=Cc.o.at_ 1 (by simp);simp only[Zx,Zw]at c0 c1';clear Ho Hx Oa CB Xa HH0 Fb;go_wp2_with fail;refine(Pp cl cp 5000 _ ((os.map Subtype.val).map Wh) _ O3.o Fb1.o Fb2.o).mono ?_;rintro e wd ⟨vo,rfl,hno,hxd⟩;obtain⟨x,ms,last,t,hlin⟩:=HX.o.lin;obtain⟨ord,z,hse,hfo⟩:=Lin.finds hlin (fun o ho=>(HA.o o ho).1) HC.o (by rw[Hlm.o];omega);rw[hse]at hno⊢;obtain⟨Ao,Co,rfl⟩:=hno.shape;have hlen:ord.length=i:=by rw[hfo.len,Hlm.o]
 rw[hlen]at hno⊢;have HFO:=Y4 hfo;have Hlen:=Y4 hlen;have No:=Y4 hno;have Od:=Y4 (Oc.o.ext hxd);have Cd:=Y4 (Cc.o.ext hxd);have Xd:=Y4 (Xc.o.trans hxd);have e1:(i !=i)=false:=by simp
 have e2:((i:Int)!=(i:Int))=false:=by simp
 have i8:i≤6:=by omega
 clear hno hxd hlin hse hfo hlen c0 c1' Oc Cc Xc O3 Fb1 Fb2 x ms last t;go_upto_region 14 with fail;have SB:=Y4 (Xp.new wd #[.bool false,.bool false,.bool false,.bool false,.bool false,.bool false,.bool false,.bool false] 68);have xs:=(Yl wd).alloc (.cells #[.bool false,.bool false,.bool false,.bool false,.bool false,.bool false,.bool false,.bool false] 68);have Oe:=Y4 ((Od.o.mono (T:=fun k=>k<wd.heap.size) fun _ _ hl=>hl).ext xs);have Ne_:=Y4 (show Vo _ (fun k=>k<wd.heap.size) (.slice Ao i Co) ord from Rd.ext (Rd.mono No.o fun _ _ hl=>hl) xs);have Ce:=Y4 (Cd.o.ext xs);have Xe:=Y4 (Xd.o.trans xs);have Hws:=Y4 Xd.o.size;have Hcs:=Y4 Cd.o.lt;obtain⟨sb,hsb⟩:=gnX (wd.heap.size);obtain⟨We,hWe⟩:=gnX (wd.alloc (.cells #[.bool false,.bool false,.bool false,.bool false,.bool false,.bool false,.bool false,.bool false] 68));rw[hsb,hWe]at SB;rw[hWe,hsb]at Oe Ne_;rw[hWe]at Ce Xe;rw[hsb]at Hws Hcs;rw[hWe,hsb];clear hWe hsb xs Od No Cd Xd e1 e2;go_upto_region 15 with fail;go_loopw [71] (fun o wr=>∃ a:Nat,a≤i∧o=.int .i64 (a:Int)∧Xp wr sb (Zz0 ord a)∧V6 wr (fun k=>k<sb) (.slice A i C) (os.map Subtype.val)∧Vo wr (fun k=>k<sb) (.slice Ao i Co) ord∧Xp wr cb [.int .i64 cl,.int .i64 cp]∧Ext w wr) (fun o _=>i-(intOf o).toNat);case atStart=>exact⟨0,by omega,rfl,SB.o,Oe.o,Ne_.o,Ce.o,Xe.o⟩
 clear SB Oe Ne_ Ce Xe;obtain⟨a,ha,rfl,hsb,ho,hno,hc,hx⟩:=hrel;rename World=>wq
 have Hsq:=Y4 (show sb<wq.heap.size from hsb.lt);have SB:=Y4 hsb;have Oe:=Y4 ho;have No:=Y4 hno;have Ce:=Y4 hc;have Xe:=Y4 hx;clear hsb ho hno hc hx;by_cases hlt2:a<i
 ·obtain⟨hd_a,i0_a,i1_a⟩:=LTl a i;obtain⟨xi,hxi⟩:=geX (l:=ord) (i:=a) (by rw[Hlen.o];exact hlt2);have hxn:xi<i:=by have:=HFO.o.lt xi (Zy hxi);rwa [Hlm.o]at this
  obtain⟨ox,hox⟩:∃ o,(os.map Subtype.val)[xi]?=some o:=⟨_,Zz (by rw[Hlm.o];exact hxn)⟩;obtain⟨g,p,c,hv,hc1,hc2,_,_,ci⟩:=Vo.get (show Vo wq _ (.slice Ao ord.length Co) ord by rw[Hlen.o];exact No.o) hxi;rw[Hlen.o]at hv hc1;simp only[Ye]at hv;obtain⟨rfl,-,rfl⟩:=hv;have s1:(a:Int)≤(Co:Int):=by omega
  have s2:a≤Co:=by omega
  unfold maxLen at hc2;have x8:xi<8:=by omega
  have cS:wq.cell? ⟨sb,xi,none⟩=some (.bool false):=by rw[SB.o.at_ xi (by show xi<((List.range 8).map _).length;rw[Zq,Zi3];exact x8)];exact Zly HFO.o.nd hxi x8
  have fS:=SB.o.fz;have t1:decide ((xi:Int)<0)=false:=Yg;have t2:decide ((i:Int)≤(xi:Int))=false:=Yg;have t2n:decide (i≤xi)=false:=Yg;have u1:(0:Int)≤(xi:Int):=by omega
  have u2:(xi:Int)<(i:Int):=by omega
  have u5:(xi:Int)<8:=by omega
  have Hxi:=Y4 hxi;have Hox:=Y4 hox;have S2:=Y4 (show Xp (wq.setCell ⟨sb,xi,none⟩ (.bool true)) sb (Zz0 ord (a+1)) from by
   have h:=SB.o.set (j:=xi) (by show xi<((List.range 8).map _).length;rw[Zq,Zi3];exact x8) (.bool true)
   rwa [Zs7 hxi x8]at h)
  have cst:Chg (· = sb) wq (wq.setCell ⟨sb,xi,none⟩ (.bool true)):=(Chg.refl (· = sb) wq).setCell (p:=⟨sb,xi,none⟩) (.inl rfl) _;have hdis:∀ k,k<sb→¬ k=sb:=fun k hk e=>by omega
  have O2:=Y4 (show V6 (wq.setCell ⟨sb,xi,none⟩ (.bool true)) (fun k=>k<sb) (.slice A i C) (os.map Subtype.val) from⟨Rd.chg Oe.o.1 cst hdis,fun o ho=>Rd.chg (Oe.o.2 o ho) cst hdis⟩);have N2:=Y4 (show Vo (wq.setCell ⟨sb,xi,none⟩ (.bool true)) (fun k=>k<sb) (.slice (some ⟨g,p,none⟩) i Co) ord from Rd.chg No.o cst hdis);have C2:=Y4 (Ce.o.chg cst (by have:=Hcs.o;omega));have X2:=Y4 (Xe.o.chg_new cst (fun k e=>by rw[e];exact Hws.o));clear hxi hox cst hdis;go_upto_region 20 with fail;obtain⟨W2,hW2⟩:=gnX (wq.setCell ⟨sb,xi,none⟩ (.bool true));rw[hW2]at S2 O2 N2 C2 X2;rw[hW2];clear hW2 ci cS fS SB Oe No Ce Xe;go_upto_region 21 with fail;go_loopw [95] (fun o wr2=>∃ j:Nat,j≤a∧o=.int .i64 (j:Int)∧Ext W2 wr2) (fun o _=>a-(intOf o).toNat);case atStart=>exact⟨0,by omega,rfl,Yl _⟩
  obtain⟨j,hj,rfl,hx⟩:=hrel;rename World=>w3
  have Hy:=Y4 hx;clear hx;by_cases hlt3:j<a
  ·obtain⟨hd_j,i0_j,i1_j⟩:=LTl j a;obtain⟨yj,hyj⟩:=geX (l:=ord) (i:=j) (by rw[Hlen.o];omega);have hyn:yj<i:=by have:=HFO.o.lt yj (Zy hyj);rwa [Hlm.o]at this
   obtain⟨oy,hoy⟩:∃ o,(os.map Subtype.val)[yj]?=some o:=⟨_,Zz (by rw[Hlm.o];exact hyn)⟩;obtain⟨g2,p2,c2,hv2,_,_,_,_,cj⟩:=Vo.get (show Vo w3 _ (.slice (some ⟨g,p,none⟩) ord.length Co) ord by rw[Hlen.o];exact Rd.ext N2.o Hy.o) hyj;rw[Hlen.o]at hv2;simp only[Ye,Yd,Zjp,Zjj,Zj6]at hv2;obtain⟨⟨rfl,rfl⟩,rfl⟩:=hv2;have HO:=Y4 (show V6 w3 _ (.slice A (os.map Subtype.val).length C) (os.map Subtype.val) by rw[Hlm.o];exact O2.o.ext Hy.o);obtain⟨gx,px,cx,hvx,_,_,_,hX,_⟩:=HO.o.get Hox.o;obtain⟨gy,py,cy,hvy,_,_,_,hY,_⟩:=HO.o.get hoy;rw[Hlm.o]at hvx hvy;simp only[Ye]at hvx;obtain⟨rfl,-,rfl⟩:=hvx;simp only[Ye,Yd,Zjp,Zjj,Zj6]at hvy;obtain⟨⟨rfl,rfl⟩,rfl⟩:=hvy;have Hpr:=Y4 (HFO.o.real a j xi yj ox oy hlt3 Hxi.o hyj Hox.o hoy);have HXo:=Y4 hX;have HYo:=Y4 hY;have LA:∀ w',(∃ z:Vz,w'=later w3 z.n z.os)→Uv w' gx (px+xi*23) ox:=fun w' ⟨z,e⟩=>by rw[e];exact HXo.o.ext (⟨_,_,rfl⟩)
   have LL:∀ w',(∃ z:Vz,w'=later w3 z.n z.os)→Uv w' gx (px+yj*23) oy:=fun w' ⟨z,e⟩=>by rw[e];exact HYo.o.ext (⟨_,_,rfl⟩)
   have u3:(0:Int)≤(yj:Int):=by omega
   have u4:(yj:Int)<(i:Int):=by omega
   clear hyj hoy hX hY;go_upto_region 23 with fail;have hun:=Yb;refine Y8 (by kernel_rfl) (by kernel_rfl) ?_;repeat(first|((with_reducible refine Zy8 ?_ ?_ LA ?_);(focus(go_simp;done));rfl;(try simp only[Act.put,Zv,Zu,Zt]))|((with_reducible refine Zy8 ?_ ?_ LL ?_);(focus(go_simp;done));rfl;(try simp only[Act.put,Zv,Zu,Zt]))|((with_reducible refine Yu ?_);intro K hK;go_simp;first|((with_reducible refine hK _ ?_);clear hK K)|(apply Exists.intro;refine⟨fun _=>?_,hK _ ?_⟩;(go_at_call 19;exact Xy ((Zy4 _ _ _).mono fun e w' h=>by rw[Hpr.o]at h;exact h));clear hK K)))
   (with_reducible refine Yt ?_)
   intro w9 hy9;clear hun LA LL;try simp only[Yc]
   go_wp2_with fail;go_roundw;case rel=>exact⟨j+1,by omega,by go_num,Hy.o.trans hy9⟩
   (simp[intOf];omega)
  have hd_j:=GEl j a;go_wp2_with fail;go_roundw;case rel=>exact⟨a+1,by omega,by go_num,S2.o.ext Hy.o,O2.o.ext Hy.o,Rd.ext N2.o Hy.o,C2.o.ext Hy.o,X2.o.trans Hy.o⟩
  (simp[intOf];omega)
 have hd_a:=GEl a i;have c0:=Ce.o.at_ 0 (by simp);have c1:=Ce.o.at_ 1 (by simp);simp only[Zx,Zw]at c0 c1;go_wp2_with fail;refine(Zvz HC.o _).mono ?_;rintro e wf ⟨b,rfl,hR,hlo,hxf⟩;have HI:=Y4 (show Zuv wq b cl cp (os.map Subtype.val) ord 0 ([],0,true) wf from⟨hR.low (fun _ h=>h.elim) (fun h=>by omega),rfl,by simp,fun j hj=>by omega,hxf,hlo⟩);clear hR hlo hxf c0 c1 SB;go_wp2_with fail;go_loopw [117] (fun o wr=>∃ (k:Nat) (st:RSt),k≤i∧o=.int .i64 (k:Int)∧Zuv wq b cl cp (os.map Subtype.val) ord k st wr) (fun o _=>i-(intOf o).toNat);case atStart=>exact⟨0,_,by omega,rfl,HI.o⟩
 obtain⟨k,st,hkq,rfl,hI⟩:=hrel;rename World=>wr
 have HI2:=Y4 hI;clear hI HI;by_cases hkl:k<i
 ·obtain⟨hd_k,i0_k,i1_k⟩:=LTl k i;obtain⟨xi,hxi⟩:=geX (l:=ord) (i:=k) (by rw[Hlen.o];exact hkl);have hxn:xi<i:=by have:=HFO.o.lt xi (Zy hxi);rwa [Hlm.o]at this
  obtain⟨o,hoi⟩:∃ o,(os.map Subtype.val)[xi]?=some o:=⟨_,Zz (by rw[Hlm.o];exact hxn)⟩;have xw:=HI2.o.ext;obtain⟨g2,p2,c2',hv2,l1,l2,_,hg2,hcell⟩:=Vo.get (show Vo wr _ (.slice Ao ord.length Co) ord by rw[Hlen.o];exact Rd.ext No.o xw) hxi;obtain⟨g,p,c,hv,hc1,hc2,hgS,hA,hN⟩:=(show V6 wr _ (.slice A (os.map Subtype.val).length C) (os.map Subtype.val) by rw[Hlm.o];exact Oe.o.ext xw).get hoi;rw[Hlm.o]at hv hc1;rw[Hlen.o]at hv2 l1;simp only[Ye]at hv hv2;obtain⟨rfl,-,rfl⟩:=hv;obtain⟨rfl,-,rfl⟩:=hv2;have q1:(0:Int)≤(xi:Int):=by omega
  have q2:(xi:Int)<(i:Int):=by omega
  have hC:C≤9223372036854775807:=by unfold maxLen at hc2;omega
  have hC2:Co≤9223372036854775807:=by unfold maxLen at l2;omega
  obtain⟨nA,nC,hnv⟩:=hN.shape;have hone:o.nv.oneCell'=true:=by rw[hnv];rfl
  have Hi:=Y4 hxi;have Hoi:=Y4 hoi;have HAo:=Y4 hA;have HN:=Y4 hN;have Hft:=Y4 (HF.o.ticks o (Zy hoi));have Hst:=Y4 (show(Vm cl cp st o).1=0 from by have:=HFO.o.step k xi o hxi hoi;rwa [← HI2.o.is]at this);clear hxi hoi hA hN hnv;go_upto_region 32 with(first|(refine Wl HAo.o rfl ?_)|(refine V5 rfl rfl rfl hone ?_));have hN1:=Mu wr o;have xA:Ext wr (wr.alloc (opO o)):=(Yl wr).alloc _;obtain⟨e,he⟩:=gnX (wr.heap.size);obtain⟨W1,hW1⟩:=gnX (wr.alloc (opO o));rw[hW1]at hN1 xA⊢;rw[he]at hN1⊢;have hbe:b<e:=by rw[← he];exact HI2.o.rep.lt
  have HN1:=Y4 hN1;have XA:=Y4 (xw.trans xA);have MA:=Y4 (HI2.o.rep.ext xA);have NA:=Y4 (Rd.ext HN.o xA);have f4:W1.cell? ⟨e,4,none⟩=some (.int .i64 o.bad.e):=hN1.2 4 (by omega);clear hN1 xA hW1 he hcell xw;by_cases hb:o.bad.e=0
  ·have hbq:(o.bad.e==0)=true:=by simp[hb]
   have HS0:=Y4 (show ¬ o.res.tick<Ztg st from fun ht=>by have h1:=Zrt cl cp st hb Hft.o ht;rw[Hst.o]at h1;exact absurd h1 (by decide));have HS:=Y4 (Zlv cl cp st hb Hft.o HS0.o);have Hb:=Y4 hb;clear hb;have hfew:=HI2.o.few;have hel:e<W1.heap.size:=HN1.o.1;have HE4:=Y4 (show ¬ e=b by omega);refine Zjo (S:=fun w'=>OpF w' e o∧w'.rangeAt e 15 (Db o.res)∧w'.cell? ⟨e,4,none⟩=some (.int .i64 o.bad.e)) (by kernel_rfl) ?_ (fun hHeld=>?_)
   ·refine⟨(HN1.o.ext (Yl _).drew).f,?_,(HN1.o.ext (Yl _).drew).2 4 (by omega)⟩;have:=(HN1.o.ext (Yl _).drew).resR
    rwa [Zjd]at this
   have MD:=Y4 (MA.o.ext (Yl W1).drew);have OD:=Y4 (HN1.o.ext (Yl W1).drew);have ND:=Y4 (Rd.ext NA.o (Yl W1).drew);have XD:=Y4 (XA.o.drew);obtain⟨Wd,hWd⟩:=gnX (W1.drew);rw[hWd]at MD OD ND XD hHeld;rw[hWd];clear hWd MA HN1 NA XA f4 hel;refine Xv [0,1,2,3,4,5,6,7,8,9,10,11,12,13,14,15,16,18,19] 3 (by rfl) (by kernel_rfl) (by kernel_rfl) (fun _ _ d _ _ h=>by cases d<;>exact h) hHeld ?_;simp only[Z3,Z4,Z5,Zw,Zx];repeat(first|((with_reducible refine Ox (by kernel_rfl) rfl (fun _ h=>h.2.1) ?_);(try simp only[Act.put,Zv,Zu,Zt]))|(refine Xu (v:=?_) (by kernel_rfl) ?_ ?_;rotate_left;(focus((intro wT hST;obtain⟨⟨h0,h1,h2,h3,h22⟩,hR,h4⟩:=hST;go_simp);(first|done|(with_reducible rfl))));(try simp only[Act.put,Zv,Zu,Zt])))
   refine Xs ?_;clear hHeld;refine Zjv (rs:=[17]) (by kernel_rfl) (by simp) ?_;refine Yr (o:=_) rfl (fun K hK=>?_) Yq;go_simp;refine(Zp5 (S:=fun j=>j<sb) b cl cp o.cl o.op o.ttl o.res.tick st.1 o.nv o.ns _ MD.o (by omega) ND.o (by have h1:=HI2.o.lo;have h4:=Hsq.o;omega)).mono ?_;rintro x w4 ⟨rfl,hM4,hC4⟩;have M4:=Y4 hM4;have O4:=Y4 (OD.o.chg hC4 HE4.o);have X4:=Y4 (XD.o.chg_new hC4 (fun j hj=>by rw[hj];exact HI2.o.lo));obtain⟨R,hR⟩:=gnX (doR cl cp st.1 o.cl o.op o.ttl o.res.tick o.ns);have HS2:=HS.o;rw[hR]at HS2⊢;have HS:=Y4 HS2;have hq:Js R o.res=true:=by
    have h1:=Hst.o;rw[HS2]at h1;cases hq:Js R o.res
    ·rw[hq]at h1;simp at h1
    rfl
   clear hM4 hC4 hR HS2 MD OD ND XD;refine hK.out _ _ ?_ (fun hHeld=>?_)
   ·refine⟨O4.o.f,?_,O4.o.2 4 (by omega)⟩;have:=O4.o.resR
    rwa [Zjd]at this
   clear hK K;try simp only[Act.put,Zv,Zu,Zt]
   refine Xv [20,21] 0 (by rfl) (by kernel_rfl) (by kernel_rfl) (fun _ _ d _ _ h=>by cases d<;>exact h) hHeld ?_;simp only[Z3,Z4,Z5,Zw,Zx];refine Rg (by kernel_rfl) rfl rfl ?_;rw[hq];(try simp only[Act.put,Zv,Zu,Zt])
   (refine Xu (v:=?_) (by kernel_rfl) ?_ ?_;rotate_left;(focus((intro wT hST;obtain⟨⟨h0,h1,h2,h3,h22⟩,hR,h4⟩:=hST;go_simp);(first|done|(with_reducible rfl))));(try simp only[Act.put,Zv,Zu,Zt]))
   refine Xs ?_;clear hHeld;refine Zjf (by kernel_rfl) ?_ _;have HS:=Y4 (show Vm cl cp st o=(0,(doL cl cp st.1 o.cl o.op o.ttl o.res.tick o.ns,o.res.tick,false)) by rw[HS.o,hq];rfl);go_wp2_with fail;go_roundw;case rel=>exact⟨k+1,_,by omega,by go_num,HI2.o.next Hi.o Hoi.o HS.o M4.o X4.o⟩
   (simp[intOf];omega)
  have hbq:(o.bad.e==0)=false:=by simp[hb]
  have HS:=Y4 (show Vm cl cp st o=(0,st) from by
   have h1:=step_bad cl cp st hb;have h2:=Hst.o;rw[h1]at h2⊢;simp only at h2;rw[h2])
  clear hb;have m4:=lat f4;have hun:=Yb;refine Y8 (by kernel_rfl) (by kernel_rfl) ?_;repeat((with_reducible refine Yu ?_);intro K hK;go_simp;(with_reducible refine hK _ ?_);clear hK K)
  (with_reducible refine Yt ?_)
  intro w9 hy9;clear hun;try simp only[Yc]
  go_wp2_with fail;go_roundw;case rel=>exact⟨k+1,st,by omega,by go_num,HI2.o.next Hi.o Hoi.o HS.o (MA.o.ext hy9) (XA.o.trans hy9)⟩
  (simp[intOf];omega)
 have hd_k:=GEl k i;have Xr:=Y4 (Xe.o.trans HI2.o.ext);go_wp2_with fail;refine(Ly _).mono ?_;rintro e w9 ⟨rfl,hy9⟩;go_wp2_with fail;go_ret;exact⟨rfl,(Xr.o.trans hy9).below⟩
end historyFinds
