/- Lemmas of this claim: Kt, Snb, SameR, Law33j. Conditions: as named. -/
import Derived.Test.YtnbclgbicnpmnaaGreatA28
import Derived.Test.YtnbclgbicnpmnaaGreatA30
namespace Go.Proofs.YtnbclgbicnpmnaaGreat
open Go.RowKit Go.Sort Go.Proofs.Tryz
set_option maxHeartbeats 0
set_option maxRecDepth 100000
set_option linter.all false
structure Sy(w wx:World)(b:Nat)(v:Value)(l:List Zxb):Prop where
 src:Src w.heap.size wx b
 ext:Ext w wx
 own:Own Zvj wx (b+1) v l
theorem Sy.next{w w1 w2:World}{b B:Nat}{v:Value}{l:List Zxb}(h:Sy w w1 b v l)(hb:w.heap.size=b)(t:Vv w.heap.size B w1 w2)(hB:B=b:=by rfl):Sy w w2 b v l:=by
 subst hB;exact⟨t.src,h.ext.chg_new t.chg (fun i hi=>by omega),h.own.chg t.chg (fun k hk e=>by have:=(h.own.lt k hk).1;omega)⟩
theorem Sy.grow{w w1 w5:World}{b:Nat}{v:Value}{l l':List Zxb}{o:Obj}{A:Option Addr}{n c:Nat}(h:Sy w w1 b v l)(hb:w.heap.size=b)(hg:Grew Zvj (w1.alloc o) (b+1) v l' A n c w5):Sy w w5 b (.slice A n c) l':=by
 have hlt:∀ k,v.ownBlock=some k→b+1≤k:=fun k hk=>(h.own.lt k hk).1
 exact⟨(h.src.alloc o).chg hg.chg (fun e=>by have:=hlt b e;omega) (fun k hk e=>by have:=hlt k e;omega),(h.ext.alloc o).chg_new hg.chg (fun i hi=>by have:=hlt i hi;omega),hg.own⟩
theorem Mm(w:World)(a b c:Int)(s:ByteArray)(t:TypeId)(g:Nat)(hg:w.heap.size=g):RdE Zvj (w.alloc (.cells #[.int .i64 a,.int .i64 b,.int .i64 c,.string s] t)) (fun _=>True) (.slice (some ⟨g,0,none⟩) 1 1) [⟨a,b,c,s⟩]:=by
 subst hg;exact Qh w #[.int .i64 a,.int .i64 b,.int .i64 c,.string s] t 4 rfl
def Zvm(w:World)(e:Ending)(w':World):Prop:=∃ (v:Value) (l:List Zxb),e=.returned v∧RdE Zvj w' (fun k=>w.heap.size≤k) v l∧l.length≤65∧Ext w w'
theorem Zyd(a:Option Addr)(len cap:Nat)(w:World)(hrow:Eu w a len):Calls prog 12 #[.slice a len cap] w (Zvm w):=by
 obtain⟨b,hb⟩:=gnX (w.heap.size);have Hbw:=Y8 hb;have S0:=Y8 (show Sy w (w.alloc (.cells #[.slice a len cap,.int .i64 0] 165)) b (.slice none 0 0) [] from⟨by have:=Bx (cap:=cap) hrow (Yk w);rw[← hb];exact this,(Yk w).alloc _,Own.nil _ _ _⟩);clear hrow;go_enter func12,ntmps12;go_wp2_with fail;refine(Si _ _ _ _).mono ?_;rintro e w0 ⟨rfl,rfl⟩;obtain⟨W0,hW0⟩:=gnX (w.alloc (.cells #[.slice a len cap,.int .i64 0] 165));rw[hW0]at S0⊢;rw[hb];clear hW0;go_wp2_with fail;go_loopw [4] (fun u wr=>∃ l:List Zxb,l.length≤65∧Sy w wr b u l) (fun u _=>100-sliceLen u);case atStart=>exact⟨[],by simp,S0.o⟩
 clear S0;obtain⟨l,hl,hS⟩:=hrel;obtain⟨A,C,rfl,hlC,hC⟩:=hS.own.shape;obtain⟨m,hm⟩:=gnX (l.length);rw[hm]at hS hlC hl⊢;have Hm:=Y8 hm;have S1:=Y8 hS;clear hS hm;unfold maxLen at hC;go_wp2_with fail;refine(Zqu b _ _ S1.o.src).mono ?_;rintro e w1 ⟨⟨q,rfl⟩,hs,hc⟩;have S9:=Y8 (S1.o.next Hbw.o ⟨hs,hc⟩);clear hs hc;cases q with
 | false =>
  go_wp2_with fail;go_ret;exact⟨_,l,rfl,by rw[← Hm.o];exact Rd.mono (show RdE Zvj w1 (fun k=>b+1≤k) (.slice A l.length C) l by have:=S9.o.own.rd;rw[Hm.o];exact this) fun k hk _=>by have:=Hbw.o;omega,by rw[Hm.o];exact hl,S9.o.ext⟩
 | true =>
  by_cases h60:m<60
  ·have d1:decide ((m:Int)<60)=true:=Ye;go_wp2_with fail;refine(Xc b 8 (by omega) (by omega) _ _ S9.o.src).mono ?_;rintro e w2 ⟨v,hv,rfl,h⟩;have S2:=Y8 (S9.o.next Hbw.o h);clear h;by_cases hv0:v=0
   ·subst hv0;go_wp2_with fail;refine(Xc b 4 (by omega) (by omega) _ _ S2.o.src).mono ?_;rintro e w3 ⟨v3,hv3,rfl,h⟩;have S3:=Y8 (S2.o.next Hbw.o h);clear h;go_wp2_with fail;refine(Oj _ b _ S3.o.src).mono ?_;rintro e w4 ⟨t,rfl,ht,h⟩;have S4:=Y8 (S3.o.next Hbw.o h);clear h;go_wp2_with (at_builtin;refine Xt Zvj _ _ _ rfl rfl rfl rfl (S4.o.own.ext ((Yk _).alloc _)) rfl (Mm _ 1 (v3:Int) 0 t _ _ rfl) (by rw[Hm.o];show _+1≤_;omega) (by show 40≤1000;omega) (by have:=S4.o.src.lt;simp;omega) ?_;intro A5 n5 c5 w5 hg5;have S5:=Y8 (S4.o.grow Hbw.o hg5);have N5:=Y8 hg5.len;clear hg5);go_roundw;case rel=>exact⟨_,by rw[Zs,Hm.o];show m+1≤65;omega,S5.o⟩
    case measure =>
     have e5:=N5.o;rw[Zs,Hm.o]at e5;simp only[Zl,Zk]at e5;simp only[sliceLen];omega
   have f0:((v:Int)==0)=false:=by simp;omega
   have f0n:(v==0)=false:=by simp;omega
   have f0p:¬ (v:Int)=0:=by omega
   by_cases hv1:v=1
   ·subst hv1;go_wp2_with fail;refine(Xc b 4 (by omega) (by omega) _ _ S2.o.src).mono ?_;rintro e w3 ⟨v3,hv3,rfl,h⟩;have S3:=Y8 (S2.o.next Hbw.o h);clear h;go_wp2_with fail;refine(Oj _ b _ S3.o.src).mono ?_;rintro e w4 ⟨t,rfl,ht,h⟩;have S4:=Y8 (S3.o.next Hbw.o h);clear h;go_wp2_with (at_builtin;refine Xt Zvj _ _ _ rfl rfl rfl rfl (S4.o.own.ext ((Yk _).alloc _)) rfl (Mm _ 1 (v3:Int) 0 t _ _ rfl) (by rw[Hm.o];show _+1≤_;omega) (by show 40≤1000;omega) (by have:=S4.o.src.lt;simp;omega) ?_;intro A5 n5 c5 w5 hg5;have S5:=Y8 (S4.o.grow Hbw.o hg5);have N5:=Y8 hg5.len;clear hg5);go_roundw;case rel=>exact⟨_,by rw[Zs,Hm.o];show m+1≤65;omega,S5.o⟩
    case measure =>
     have e5:=N5.o;rw[Zs,Hm.o]at e5;simp only[Zl,Zk]at e5;simp only[sliceLen];omega
   have f1:((v:Int)==1)=false:=by simp;omega
   have f1n:(v==1)=false:=by simp;omega
   have f1p:¬ (v:Int)=1:=by omega
   by_cases hv2:v=2
   ·subst hv2;go_wp2_with fail;refine(Xc b 12 (by omega) (by omega) _ _ S2.o.src).mono ?_;rintro e w3 ⟨v3,hv3,rfl,h⟩;have S3:=Y8 (S2.o.next Hbw.o h);clear h;obtain⟨t3,ht3⟩:∃ t:Int,(v3:Int)-1=t:=⟨_,rfl⟩;have r3:IntKind.i64.wrap ((v3:Int)-1)=t3:=by rw[Yp _ (by omega)];exact ht3
    go_wp2_with (at_builtin;refine Xt Zvj _ _ _ rfl rfl rfl rfl (S3.o.own.ext ((Yk _).alloc _)) rfl (Mm _ 3 0 t3 ⟨#[]⟩ _ _ rfl) (by rw[Hm.o];show _+1≤_;omega) (by show 40≤1000;omega) (by have:=S3.o.src.lt;simp;omega) ?_;intro A5 n5 c5 w5 hg5;have S5:=Y8 (S3.o.grow Hbw.o hg5);have N5:=Y8 hg5.len;clear hg5);go_roundw;case rel=>exact⟨_,by rw[Zs,Hm.o];show m+1≤65;omega,S5.o⟩
    case measure =>
     have e5:=N5.o;rw[Zs,Hm.o]at e5;simp only[Zl,Zk]at e5;simp only[sliceLen];omega
   have f2:((v:Int)==2)=false:=by simp;omega
   have f2n:(v==2)=false:=by simp;omega
   have f2p:¬ (v:Int)=2:=by omega
   by_cases hv3:v=3
   ·subst hv3;go_wp2_with fail;refine(Xc b 4 (by omega) (by omega) _ _ S2.o.src).mono ?_;rintro e w3 ⟨v3,hv3,rfl,h⟩;have S3:=Y8 (S2.o.next Hbw.o h);clear h;obtain⟨t3,ht3⟩:∃ t:Int,1+(v3:Int)=t:=⟨_,rfl⟩;have r3:IntKind.i64.wrap (1+(v3:Int))=t3:=by rw[Yp _ (by omega)];exact ht3
    go_wp2_with fail;refine(Xc b 7 (by omega) (by omega) _ _ S3.o.src).mono ?_;rintro e w4 ⟨v4,hv4,rfl,h⟩;have S4:=Y8 (S3.o.next Hbw.o h);clear h;obtain⟨t4,ht4⟩:∃ t:Int,(v4:Int)-1=t:=⟨_,rfl⟩;have r4:IntKind.i64.wrap ((v4:Int)-1)=t4:=by rw[Yp _ (by omega)];exact ht4
    go_wp2_with fail;refine(Xc b 2 (by omega) (by omega) _ _ S4.o.src).mono ?_;rintro e w6 ⟨v6,hv6,rfl,h⟩;have S6:=Y8 (S4.o.next Hbw.o h);clear h;obtain⟨t6,ht6⟩:∃ t:Int,1073741824*(v6:Int)=t:=⟨_,rfl⟩;have r6:IntKind.i64.wrap (1073741824*(v6:Int))=t6:=by rw[Yp _ (by omega)];exact ht6
    go_wp2_with (at_builtin;refine Xt Zvj _ _ _ rfl rfl rfl rfl (S6.o.own.ext ((Yk _).alloc _)) rfl (Mm _ t3 t4 t6 ⟨#[81,85,69,82,89,32,97]⟩ _ _ rfl) (by rw[Hm.o];show _+1≤_;omega) (by show 40≤1000;omega) (by have:=S6.o.src.lt;simp;omega) ?_;intro A5 n5 c5 w5 hg5;have S5:=Y8 (S6.o.grow Hbw.o hg5);have N5:=Y8 hg5.len;clear hg5);go_roundw;case rel=>exact⟨_,by rw[Zs,Hm.o];show m+1≤65;omega,S5.o⟩
    case measure =>
     have e5:=N5.o;rw[Zs,Hm.o]at e5;simp only[Zl,Zk]at e5;simp only[sliceLen];omega
   have f3:((v:Int)==3)=false:=by simp;omega
   have f3n:(v==3)=false:=by simp;omega
   have f3p:¬ (v:Int)=3:=by omega
   clear hv0 hv1 hv2 hv3;go_wp2_with fail;refine(Xc b 4 (by omega) (by omega) _ _ S2.o.src).mono ?_;rintro e w3 ⟨v3,hv3,rfl,h⟩;have S3:=Y8 (S2.o.next Hbw.o h);clear h;go_wp2_with fail;refine(Xc b 6 (by omega) (by omega) _ _ S3.o.src).mono ?_;rintro e w4 ⟨v4,hv4,rfl,h⟩;have S4:=Y8 (S3.o.next Hbw.o h);clear h;obtain⟨k0,hk0⟩:=gnX (1+v4);have r4:IntKind.i64.wrap (1+(v4:Int))=(k0:Int):=by rw[Yp _ (by omega)];omega
   have hk1:1≤k0:=by omega
   have hk6:k0≤6:=by omega
   clear hk0 hv4;go_wp2_with fail;go_loopw [6,4] (fun o u wx=>∃ (k:Nat) (l2:List Zxb),o=.int .i64 (k:Int)∧l2.length+k=m+k0∧Sy w wx b u l2) (fun o _ _=>(intOf o).toNat);case atStart=>exact⟨k0,l,rfl,by rw[Hm.o],S4.o⟩
   rename World=>wi
   obtain⟨k,l2,rfl,hk,hS⟩:=hrel;obtain⟨A2,C2,rfl,hlC2,hC2⟩:=hS.own.shape;obtain⟨m2,hm2⟩:=gnX (l2.length);rw[hm2]at hS hlC2 hk⊢;have Hm2:=Y8 hm2;have S7:=Y8 hS;clear hS hm2;unfold maxLen at hC2;by_cases hk2:0<k
   ·have d2:decide ((0:Int)<(k:Int))=true:=Ye;obtain⟨p,hp⟩:=gnX (k-1);have r2:IntKind.i64.wrap ((k:Int)-1)=(p:Int):=by rw[Yp _ (by omega)];omega
    go_wp2_with (at_builtin;refine Xt Zvj _ _ _ rfl rfl rfl rfl (S7.o.own.ext ((Yk _).alloc _)) rfl (Mm _ 2 (v3:Int) 0 ⟨#[]⟩ _ _ rfl) (by rw[Hm2.o];show _+1≤_;omega) (by show 40≤1000;omega) (by have:=S7.o.src.lt;simp;omega) ?_;intro A5 n5 c5 w5 hg5;have S5:=Y8 (S7.o.grow Hbw.o hg5);clear hg5);go_roundw;case rel=>exact⟨p,_,rfl,by rw[Zs,Hm2.o];show m2+1+p=_;omega,S5.o⟩
    (simp[intOf];omega)
   obtain rfl:k=0:=by omega
   go_wp2_with fail;go_roundw;case rel=>exact⟨l2,by rw[Hm2.o];omega,S7.o⟩
   case measure =>
    simp only[sliceLen];omega
  have d1:decide ((m:Int)<60)=false:=Yf;go_wp2_with fail;go_ret;exact⟨_,l,rfl,by rw[← Hm.o];exact Rd.mono (show RdE Zvj w1 (fun k=>b+1≤k) (.slice A l.length C) l by have:=S9.o.own.rd;rw[Hm.o];exact this) fun k hk _=>by have:=Hbw.o;omega,by rw[Hm.o];exact hl,S9.o.ext⟩
abbrev Em:Value:=.slice none 0 0
theorem Zlp(w:World)(B:Nat):K3 w B [Em,Em,Em,Em,Em] [Vm.row [],rcE.row [],Vm.row [],Ww.row [],Ww.row []]:=by
 refine⟨fun i v r hv hr=>?_,rfl,fun i j u v q _ hu _ hq=>?_⟩
 ·match i with
  | 0=>cases hv;cases hr;exact Own.nil Vm w B
  | 1=>cases hv;cases hr;exact Own.nil rcE w B
  | 2=>cases hv;cases hr;exact Own.nil Vm w B
  | 3=>cases hv;cases hr;exact Own.nil Ww w B
  | 4=>cases hv;cases hr;exact Own.nil Ww w B
  | _+5=>simp at hv
 match i with
 | 0=>cases hu;cases hq
 | 1=>cases hu;cases hq
 | 2=>cases hu;cases hq
 | 3=>cases hu;cases hq
 | 4=>cases hu;cases hq
 | _+5=>simp at hu
structure Zzj(w0 w:World)(sb:Nat)(cs vs:List Value)(rs:List Zo1):Prop where
 ext:Ext w0 w
 res:Xm w w0.heap.size [.int .i64 0,.int .i64 0,.slice none 0 0,.slice none 0 0,.slice none 0 0,.slice none 0 0,.slice none 0 0]
 box:Xm w sb cs
 rows:K3 w (sb+1) vs rs
 sb0:w0.heap.size<sb
theorem Zzj.up{w0 w w':World}{sb:Nat}{cs vs:List Value}{rs:List Zo1}(h:Zzj w0 w sb cs vs rs)(x:Ext w w'):Zzj w0 w' sb cs vs rs:=⟨h.ext.trans x,h.res.ext x,h.box.ext x,h.rows.ext x,h.sb0⟩
theorem Zzj.grow{α:Type}{E:Enc α}{w0 w w1 w':World}{sb i:Nat}{cs vs:List Value}{rs:List Zo1}{v:Value}{l:List α}{A:Option Addr}{n c:Nat}(h:Zzj w0 w sb cs vs rs)(x:Ext w w1)(hv:vs[i]?=some v)(hg:Grew E w1 (sb+1) v l A n c w') :
 Zzj w0 w' sb cs (vs.set i (.slice A n c)) (rs.set i (E.row l)):=by
 have hlt:∀ q,v.ownBlock=some q→sb+1≤q:=fun q hq=>by
  obtain⟨r,hr⟩:=geX (l:=rs) (i:=i) (by rw[← h.rows.len];exact(Zr.1 hv).1);exact((h.rows.own i v r hv hr).lt q hq).1
 exact⟨(h.ext.trans x).chg_new hg.chg (fun q e=>by have:=hlt q e;have:=h.sb0;omega),(h.res.ext x).chg hg.chg (fun e=>by have:=hlt _ e;have:=h.sb0;omega),(h.box.ext x).chg hg.chg (fun e=>by have:=hlt sb e;omega),h.rows.grow x hv hg,h.sb0⟩
theorem Zzj.put{w0 w:World}{sb j:Nat}{cs vs:List Value}{rs:List Zo1}(h:Zzj w0 w sb cs vs rs)(hj:j<cs.length)(u:Value):Zzj w0 (w.setCell ⟨sb,j,none⟩ u) sb (cs.set j u) vs rs :=
 ⟨h.ext.chg_new ((Chg.refl (· = sb) w).setCell (p:=⟨sb,j,none⟩) (.inl rfl) u) (fun q e=>by have:=h.sb0;omega),h.res.far (by have:=h.sb0;omega) u,h.box.set hj u,h.rows.chg ((Chg.refl (· = sb) w).setCell (p:=⟨sb,j,none⟩) (.inl rfl) u) (fun q hq e=>by omega),h.sb0⟩
theorem Zxw(r:Rc)(t:TypeId)(w:World)(g:Nat)(hg:w.heap.size=g):RdE rcE (w.alloc (.cells #[.int .i64 r.st,.int .i64 r.ow,.string r.nm,.int .i64 r.dl] t)) (fun k=>g≤k) (.slice (some ⟨g,0,none⟩) 1 1) [r]:=Zxs w _ t 4 g hg rfl
structure SnC(w:World)(sb kb j j':Nat)(u v:Value)(p:Kp):Prop where
 c0:w.cell? ⟨sb,j,none⟩=some u
 c1:w.cell? ⟨sb,j',none⟩=some v
 k0:w.cell? ⟨kb,0,none⟩=some (.string p.1)
 k1:w.cell? ⟨kb,1,none⟩=some (.int .i64 p.2.st)
 k2:w.cell? ⟨kb,2,none⟩=some (.int .i64 p.2.ow)
 k3:w.cell? ⟨kb,3,none⟩=some (.string p.2.nm)
 k4:w.cell? ⟨kb,4,none⟩=some (.int .i64 p.2.dl)
theorem SnC.of{w:World}{sb kb j j':Nat}{u v:Value}{p:Kp}{cs:List Value}(h:Xm w sb cs)(hu:cs[j]?=some u)(hv:cs[j']?=some v)(k:Xm w kb [.string p.1,.int .i64 p.2.st,.int .i64 p.2.ow,.string p.2.nm,.int .i64 p.2.dl]):SnC w sb kb j j' u v p :=
 ⟨(h.at_ j (Zr.1 hu).1).trans hu,(h.at_ j' (Zr.1 hv).1).trans hv,k.at_ 0 (by simp),k.at_ 1 (by simp),k.at_ 2 (by simp),k.at_ 3 (by simp),k.at_ 4 (by simp)⟩
theorem Zr5:(prog.info? 27).map (·.size)=some 7:=by kernel_rfl
def Znm(d:Dk)(w:World)(e:Ending)(w':World):Prop :=
 ∃ kv rv lv ov pv,e=.returned (.agg #[.int .i64 d.x.clock,.int .i64 d.x.sum,kv,rv,lv,ov,pv])∧RdE Vm w' (fun k=>w.heap.size≤k) kv (d.x.rs.map Prod.fst)∧RdE rcE w' (fun k=>w.heap.size≤k) rv (d.x.rs.map Prod.snd)∧RdE Vm w' (fun k=>w.heap.size≤k) lv (d.x.ks.map Prod.fst)∧RdE Ww w' (fun k=>w.heap.size≤k) ov (d.x.ks.map fun p=>p.2.ow)∧RdE Ww w' (fun k=>w.heap.size≤k) pv (d.ms.map fun p=>p.2.st)∧Ext w w'
theorem Zlm{U:Nat→Prop}(T:Tbl)(b B:Nat)(d:Dk)(w:World)(h:Wu w U T b B d)(hn:d.n≤100000):Calls prog 38 #[.pointer (some ⟨b,0,none⟩)] w (Znm d w):=by
 obtain⟨A3,C3,hv3⟩:=KeptAt.shape h.shr.rs;obtain⟨A4,C4,hv4⟩:=KeptAt.shape h.shr.ks;have b0:w.cell? ⟨b,0,none⟩=some (.pointer (some ⟨d.xb,0,none⟩)):=h.c 0 rfl;have x2:w.cell? ⟨d.xb,2,none⟩=some (.int .i64 d.x.clock):=h.shr.cells.at_ 2 (by show 2<6;omega);have x3:w.cell? ⟨d.xb,3,none⟩=some (.int .i64 d.x.sum):=h.shr.cells.at_ 3 (by show 3<6;omega);have H:=Y8 h;have Hv3:=Y8 hv3;have Hv4:=Y8 hv4;have Hn:=Y8 hn;have hbl:=h.cells.lt;have hxl:=h.shr.cells.lt;clear h hv3 hv4 hn;go_enter func38,ntmps38;go_upto_region 1 with fail;have zl:(w.alloc (.cells #[.int .i64 0,.int .i64 0,.slice none 0 0,.slice none 0 0,.slice none 0 0,.slice none 0 0,.slice none 0 0] 27)).heap.size=w.heap.size+1:=by simp
 have R0:=Y8 (((Xm.new w #[.int .i64 0,.int .i64 0,.slice none 0 0,.slice none 0 0,.slice none 0 0,.slice none 0 0,.slice none 0 0] 27).ext ((Yk _).alloc (.cells #[.int .i64 d.x.clock,.int .i64 d.x.sum,.slice none 0 0,.slice none 0 0,.slice none 0 0,.slice none 0 0,.slice none 0 0] 27))).drew);have S0:=Y8 (show Zzj w (((w.alloc (.cells #[.int .i64 0,.int .i64 0,.slice none 0 0,.slice none 0 0,.slice none 0 0,.slice none 0 0,.slice none 0 0] 27)).alloc (.cells #[.int .i64 d.x.clock,.int .i64 d.x.sum,.slice none 0 0,.slice none 0 0,.slice none 0 0,.slice none 0 0,.slice none 0 0] 27)).drew) (w.heap.size+1) [.int .i64 d.x.clock,.int .i64 d.x.sum,Em,Em,Em,Em,Em] [Em,Em,Em,Em,Em] [Vm.row [],rcE.row [],Vm.row [],Ww.row [],Ww.row []] from
  ⟨(((Yk w).alloc _).alloc _).drew,R0.o,by
    have:=(Xm.new (w.alloc (.cells #[.int .i64 0,.int .i64 0,.slice none 0 0,.slice none 0 0,.slice none 0 0,.slice none 0 0,.slice none 0 0] 27)) #[.int .i64 d.x.clock,.int .i64 d.x.sum,.slice none 0 0,.slice none 0 0,.slice none 0 0,.slice none 0 0,.slice none 0 0] 27).drew;rw[zl]at this;exact this,Zlp _ _,by omega⟩)
 go_cut [3] (fun o wq=>o=.pointer (some ⟨w.heap.size+1,0,none⟩)∧wq=((w.alloc (.cells #[.int .i64 0,.int .i64 0,.slice none 0 0,.slice none 0 0,.slice none 0 0,.slice none 0 0,.slice none 0 0] 27)).alloc (.cells #[.int .i64 d.x.clock,.int .i64 d.x.sum,.slice none 0 0,.slice none 0 0,.slice none 0 0,.slice none 0 0,.slice none 0 0] 27)).drew);case first =>
  go_region;all_goals
   go_wp2_with fail;go_meet;exact⟨rfl,rfl⟩
 obtain⟨rfl,hwq⟩:=hcut;rename World=>w1
 rw[← hwq]at S0;obtain⟨rb,hrb⟩:=gnX (w.heap.size);obtain⟨sb,hsb⟩:=gnX (w.heap.size+1);rw[hsb]at S0;try rw[hsb]
 try rw[hrb]
 have hrs:rb<sb:=by omega
 have Hrb:=Y8 hrb;clear hwq hrb hsb zl b0 x2 x3 R0;have D1:=Y8 (H.o.ext S0.o.ext);have b0:w1.cell? ⟨b,0,none⟩=some (.pointer (some ⟨d.xb,0,none⟩)):=D1.o.c 0 rfl;have x5:w1.cell? ⟨d.xb,5,none⟩=some d.x.rv:=D1.o.shr.cells.at_ 5 (by show 5<6;omega);rw[Hv3.o]at x5;obtain⟨n3,hn3⟩:∃ x,d.x.rs.length=x:=⟨_,rfl⟩;rw[hn3]at x5;have Hn3:=Y8 hn3;have hn3b:n3≤100000:=by have:=H.o.xok.r;have:=Hn.o;omega
 clear hn3;go_wp2_with fail;go_loopw [33] (fun o wr=>∃ (i:Nat) (kv rv:Value),i≤n3∧o=.int .i64 (i:Int)∧Zzj w wr sb [.int .i64 d.x.clock,.int .i64 d.x.sum,kv,rv,Em,Em,Em] [kv,rv,Em,Em,Em] [Vm.row ((d.x.rs.map Prod.fst).take i),rcE.row ((d.x.rs.map Prod.snd).take i),Vm.row [],Ww.row [],Ww.row []]) (fun o _=>n3-(intOf o).toNat);case atStart=>exact⟨0,_,_,by omega,rfl,S0.o⟩
 obtain⟨i,kv,rv,hi,rfl,hS⟩:=hrel;rename World=>wr
 have S1:=Y8 hS;clear hS S0 b0 x5;by_cases hlt:i<n3
 ·obtain⟨hd_i,i0_i,i1_i⟩:=LTl i n3;obtain⟨p,hp⟩:∃ p,d.x.rs[i]?=some p:=⟨d.x.rs[i]'(by rw[Hn3.o];exact hlt),Zz _⟩;obtain⟨g,o,c',hvv,_,_,_,hgl,y0,y1,y2,y3,y4⟩:=KeptAt.get (Rd.ext (H.o.shr.rs) S1.o.ext) hp;rw[Hv3.o,Hn3.o]at hvv;obtain⟨rfl,-,rfl⟩:=slcX hvv;clear hvv;have Hp:=Y8 hp;clear hp;go_upto_region 5 with fail;have K1:=Y8 (Xm.new wr #[.string p.1,.int .i64 p.2.st,.int .i64 p.2.ow,.string p.2.nm,.int .i64 p.2.dl] 161);have S2:=Y8 (S1.o.up ((Yk _).alloc (.cells #[.string p.1,.int .i64 p.2.st,.int .i64 p.2.ow,.string p.2.nm,.int .i64 p.2.dl] 161)));obtain⟨kb,hkb⟩:=gnX (wr.heap.size);obtain⟨W,hW⟩:=gnX (wr.alloc (.cells #[.string p.1,.int .i64 p.2.st,.int .i64 p.2.ow,.string p.2.nm,.int .i64 p.2.dl] 161));rw[hW]at K1 S2;rw[hkb]at K1;try rw[hW]
  try rw[hkb]
  have Hl0:=Y8 (show ∀ q,kv.ownBlock=some q→q<kb from fun q hq=>by have:=((S1.o.rows.own 0 kv _ rfl rfl).lt q hq).2;omega);have Hl1:=Y8 (show ∀ q,rv.ownBlock=some q→q<kb from fun q hq=>by have:=((S1.o.rows.own 1 rv _ rfl rfl).lt q hq).2;omega);clear hW hkb y0 y1 y2 y3 y4 hgl;obtain⟨Ak,Ck,rfl,_,_⟩:=(S2.o.rows.get (E:=Vm) (i:=0) rfl rfl).shape;obtain⟨Ar,Cr,rfl,_,_⟩:=(S2.o.rows.get (E:=rcE) (i:=1) rfl rfl).shape;obtain⟨la,hla⟩:∃ x,(List.take i (List.map Prod.fst d.x.rs)).length=x:=⟨_,rfl⟩;obtain⟨lb,hlb⟩:∃ x,(List.take i (List.map Prod.snd d.x.rs)).length=x:=⟨_,rfl⟩;rw[hla,hlb]at S2;rw[hla]at Hl0;rw[hlb]at Hl1;have hla2:la≤100000:=by rw[← hla,Zp];omega
  have hlb2:lb≤100000:=by rw[← hlb,Zp];omega
  have Hla:=Y8 hla;have Hlb:=Y8 hlb;try rw[hla]
  try rw[hlb]
  clear hla hlb S1;have Hl0b:=Hla;have Hl1b:=Hlb;have SWd:=Y8 (S2.o.up (Yk W).drew);have KWd:=Y8 K1.o.drew;refine Vd (S:=fun w'=>SnC w' sb kb 2 3 (.slice Ak la Ck) (.slice Ar lb Cr) p) 13 16 (by kernel_rfl) (by omega) (by kernel_rfl) (by kernel_rfl) ?_;obtain⟨Wd,hWd⟩:=gnX (W.drew);rw[hWd]at SWd KWd;rw[hWd];clear hWd S2 K1;refine tksX [0,1,2,3,6,7,8,9] 5 (SnC.of SWd.o.box rfl rfl KWd.o) ?_;simp only[Z3,Z4,Z5,Zw,Zx];repeat(refine tkcX (v:=?_) ?_ ?_;rotate_left;(focus((intro wT hST;obtain⟨hS0,hS1,h0,h1,h2,h3,h4⟩:=hST;go_simp);(first|done|(with_reducible rfl))));(try simp only[Act.put,Zv,Zu,Zt]))
  refine Xp ?_;refine rdyX (rs:=[4,10]) ?_;refine Yr (o:=_) rfl (fun K hK=>?_) (Yr (o:=_) rfl (fun K hK=>?_) Yq)
  ·go_simp;obtain⟨gWa,hgWa⟩:=gnX ((Wd).heap.size);have SWa:=Y8 (SWd.o.up ((Yk Wd).alloc (.cells #[.string p.1] 9)));have KWa:=Y8 (KWd.o.ext ((Yk Wd).alloc (.cells #[.string p.1] 9)));have RKWa:=Y8 (Mt p.1 9 Wd _ hgWa);have hkWa:kb<gWa:=by rw[← hgWa];exact KWd.o.lt
   skip;obtain⟨Wa,hWWa⟩:=gnX ((Wd).alloc (.cells #[.string p.1] 9));rw[hWWa]at SWa KWa RKWa;try rw[hWWa]
   try rw[hgWa]
   clear hWWa hgWa;refine hK.out _ _ (SnC.of SWa.o.box rfl rfl KWa.o) (fun hHeld=>?_);clear hHeld hK K;try simp only[Act.put,Zv,Zu,Zt]
   refine rdyX (rs:=[5,10]) ?_;refine Yr (o:=_) rfl (fun K hK=>?_) (Yr (o:=_) rfl (fun K hK=>?_) Yq)
   ·refine Wt Vm (.tmp 38) (.tmp 41) 24 (by rfl) (by rfl) (by rfl) (by rfl) (SWa.o.rows.get (i:=0) rfl rfl) (by rfl) RKWa.o (by simp only[Zl,Zk];rw[Hl0b.o];omega) (by show(_:Nat)≤1000;simp[Vm,rcE,Ww]) (by have:=SWa.o.box.lt;omega) ?_;intro Aw5 nw5 cw5 w5 hg;have Sw5:=Y8 (SWa.o.grow (i:=0) (Yk _) rfl hg);have Kw5:=Y8 (KWa.o.chg hg.chg (fun e=>by have:=Hl0.o _ e;omega));skip;clear hg;refine hK.out _ _ (SnC.of Sw5.o.box rfl rfl Kw5.o) (fun hHeld=>?_);clear hHeld hK K;try simp only[Act.put,Zv,Zu,Zt]
    refine tksX [12] 2 (SnC.of Sw5.o.box rfl rfl Kw5.o) ?_;simp only[Z3,Z4,Z5,Zw,Zx];(refine tkcX (v:=?_) ?_ ?_;rotate_left;(focus((intro wT hST;obtain⟨hS0,hS1,h0,h1,h2,h3,h4⟩:=hST;go_simp);(first|done|(with_reducible rfl))));(try simp only[Act.put,Zv,Zu,Zt]))
    refine Xp ?_;refine rdoX 10 (fun K hK=>?_);go_simp;obtain⟨gWb,hgWb⟩:=gnX ((w5).heap.size);have SWb:=Y8 (Sw5.o.up ((Yk w5).alloc (.cells #[.int .i64 p.2.st,.int .i64 p.2.ow,.string p.2.nm,.int .i64 p.2.dl] 51)));have KWb:=Y8 (Kw5.o.ext ((Yk w5).alloc (.cells #[.int .i64 p.2.st,.int .i64 p.2.ow,.string p.2.nm,.int .i64 p.2.dl] 51)));have RRWb:=Y8 (Zxw p.2 51 w5 _ hgWb);have hkWb:kb<gWb:=by rw[← hgWb];exact Kw5.o.lt
    skip;obtain⟨Wb,hWWb⟩:=gnX ((w5).alloc (.cells #[.int .i64 p.2.st,.int .i64 p.2.ow,.string p.2.nm,.int .i64 p.2.dl] 51));rw[hWWb]at SWb KWb RRWb;try rw[hWWb]
    try rw[hgWb]
    clear hWWb hgWb;refine hK.out _ _ (SnC.of SWb.o.box rfl rfl KWb.o) (fun hHeld=>?_);clear hHeld hK K;try simp only[Act.put,Zv,Zu,Zt]
    refine rdoX 11 (fun K hK=>?_);refine Wt rcE (.tmp 44) (.tmp 47) 25 (by rfl) (by rfl) (by rfl) (by rfl) (SWb.o.rows.get (i:=1) rfl rfl) (by rfl) RRWb.o (by simp only[Zl,Zk];rw[Hl1b.o];omega) (by show(_:Nat)≤1000;simp[Vm,rcE,Ww]) (by have:=SWb.o.box.lt;omega) ?_;intro Aw6 nw6 cw6 w6 hg;have Sw6:=Y8 (SWb.o.grow (i:=1) (Yk _) rfl hg);have Kw6:=Y8 (KWb.o.chg hg.chg (fun e=>by have:=Hl1.o _ e;omega));skip;clear hg;refine hK.out _ _ (SnC.of Sw6.o.box rfl rfl Kw6.o) (fun hHeld=>?_);clear hHeld hK K;try simp only[Act.put,Zv,Zu,Zt]
    refine dneX ?_;simp only[V5,Z6,Z7];have b2:=Sw6.o.box.at_ 2 (by simp);have b3:=Sw6.o.box.at_ 3 (by simp);have bf:=Sw6.o.box.fz;simp only[Zx,Zw]at b2 b3;have SZ:=Y8 (((Sw6.o.put (j:=2) (by simp) (.slice Aw5 nw5 cw5))).put (j:=3) (by simp) (.slice Aw6 nw6 cw6));have hsbl:=Sw6.o.box.lt;go_wp2_with fail;go_roundw;case rel=>exact⟨i+1,_,_,by omega,by go_num,by have:=SZ.o;rw[Za,Za,Zn,Zn,Hp.o];exact this⟩
    (simp[intOf];omega)
   go_simp;obtain⟨gWb,hgWb⟩:=gnX ((Wa).heap.size);have SWb:=Y8 (SWa.o.up ((Yk Wa).alloc (.cells #[.int .i64 p.2.st,.int .i64 p.2.ow,.string p.2.nm,.int .i64 p.2.dl] 51)));have KWb:=Y8 (KWa.o.ext ((Yk Wa).alloc (.cells #[.int .i64 p.2.st,.int .i64 p.2.ow,.string p.2.nm,.int .i64 p.2.dl] 51)));have RRWb:=Y8 (Zxw p.2 51 Wa _ hgWb);have hkWb:kb<gWb:=by rw[← hgWb];exact KWa.o.lt
   have RKWb:=Y8 (RdE.ext RKWa.o ((Yk Wa).alloc (.cells #[.int .i64 p.2.st,.int .i64 p.2.ow,.string p.2.nm,.int .i64 p.2.dl] 51)));obtain⟨Wb,hWWb⟩:=gnX ((Wa).alloc (.cells #[.int .i64 p.2.st,.int .i64 p.2.ow,.string p.2.nm,.int .i64 p.2.dl] 51));rw[hWWb]at SWb KWb RRWb RKWb;try rw[hWWb]
   try rw[hgWb]
   clear hWWb hgWb;refine hK.out _ _ (SnC.of SWb.o.box rfl rfl KWb.o) (fun hHeld=>?_);clear hHeld hK K;try simp only[Act.put,Zv,Zu,Zt]
   refine rdoX 5 (fun K hK=>?_);refine Wt Vm (.tmp 38) (.tmp 41) 24 (by rfl) (by rfl) (by rfl) (by rfl) (SWb.o.rows.get (i:=0) rfl rfl) (by rfl) RKWb.o (by simp only[Zl,Zk];rw[Hl0b.o];omega) (by show(_:Nat)≤1000;simp[Vm,rcE,Ww]) (by have:=SWb.o.box.lt;omega) ?_;intro Aw5 nw5 cw5 w5 hg;have Sw5:=Y8 (SWb.o.grow (i:=0) (Yk _) rfl hg);have Kw5:=Y8 (KWb.o.chg hg.chg (fun e=>by have:=Hl0.o _ e;omega));have RRw5:=Y8 (Rd.chg RRWb.o hg.chg (fun q hq e=>by have:=Hl0.o q e;have:gWb≤q:=hq;omega));clear hg;refine hK.out _ _ (SnC.of Sw5.o.box rfl rfl Kw5.o) (fun hHeld=>?_);clear hHeld hK K;try simp only[Act.put,Zv,Zu,Zt]
   refine tksX [12] 1 (SnC.of Sw5.o.box rfl rfl Kw5.o) ?_;simp only[Z3,Z4,Z5,Zw,Zx];(refine tkcX (v:=?_) ?_ ?_;rotate_left;(focus((intro wT hST;obtain⟨hS0,hS1,h0,h1,h2,h3,h4⟩:=hST;go_simp);(first|done|(with_reducible rfl))));(try simp only[Act.put,Zv,Zu,Zt]))
   refine Xp ?_;refine rdoX 11 (fun K hK=>?_);refine Wt rcE (.tmp 44) (.tmp 47) 25 (by rfl) (by rfl) (by rfl) (by rfl) (Sw5.o.rows.get (i:=1) rfl rfl) (by rfl) RRw5.o (by simp only[Zl,Zk];rw[Hl1b.o];omega) (by show(_:Nat)≤1000;simp[Vm,rcE,Ww]) (by have:=Sw5.o.box.lt;omega) ?_;intro Aw6 nw6 cw6 w6 hg;have Sw6:=Y8 (Sw5.o.grow (i:=1) (Yk _) rfl hg);have Kw6:=Y8 (Kw5.o.chg hg.chg (fun e=>by have:=Hl1.o _ e;omega));skip;clear hg;refine hK.out _ _ (SnC.of Sw6.o.box rfl rfl Kw6.o) (fun hHeld=>?_);clear hHeld hK K;try simp only[Act.put,Zv,Zu,Zt]
   refine dneX ?_;simp only[V5,Z6,Z7];have b2:=Sw6.o.box.at_ 2 (by simp);have b3:=Sw6.o.box.at_ 3 (by simp);have bf:=Sw6.o.box.fz;simp only[Zx,Zw]at b2 b3;have SZ:=Y8 (((Sw6.o.put (j:=2) (by simp) (.slice Aw5 nw5 cw5))).put (j:=3) (by simp) (.slice Aw6 nw6 cw6));have hsbl:=Sw6.o.box.lt;go_wp2_with fail;go_roundw;case rel=>exact⟨i+1,_,_,by omega,by go_num,by have:=SZ.o;rw[Za,Za,Zn,Zn,Hp.o];exact this⟩
   (simp[intOf];omega)
  go_simp;obtain⟨gWb,hgWb⟩:=gnX ((Wd).heap.size);have SWb:=Y8 (SWd.o.up ((Yk Wd).alloc (.cells #[.int .i64 p.2.st,.int .i64 p.2.ow,.string p.2.nm,.int .i64 p.2.dl] 51)));have KWb:=Y8 (KWd.o.ext ((Yk Wd).alloc (.cells #[.int .i64 p.2.st,.int .i64 p.2.ow,.string p.2.nm,.int .i64 p.2.dl] 51)));have RRWb:=Y8 (Zxw p.2 51 Wd _ hgWb);have hkWb:kb<gWb:=by rw[← hgWb];exact KWd.o.lt
  skip;obtain⟨Wb,hWWb⟩:=gnX ((Wd).alloc (.cells #[.int .i64 p.2.st,.int .i64 p.2.ow,.string p.2.nm,.int .i64 p.2.dl] 51));rw[hWWb]at SWb KWb RRWb;try rw[hWWb]
  try rw[hgWb]
  clear hWWb hgWb;refine hK.out _ _ (SnC.of SWb.o.box rfl rfl KWb.o) (fun hHeld=>?_);clear hHeld hK K;try simp only[Act.put,Zv,Zu,Zt]
  refine rdoX 4 (fun K hK=>?_);go_simp;obtain⟨gWa,hgWa⟩:=gnX ((Wb).heap.size);have SWa:=Y8 (SWb.o.up ((Yk Wb).alloc (.cells #[.string p.1] 9)));have KWa:=Y8 (KWb.o.ext ((Yk Wb).alloc (.cells #[.string p.1] 9)));have RKWa:=Y8 (Mt p.1 9 Wb _ hgWa);have hkWa:kb<gWa:=by rw[← hgWa];exact KWb.o.lt
  have RRWa:=Y8 (RdE.ext RRWb.o ((Yk Wb).alloc (.cells #[.string p.1] 9)));obtain⟨Wa,hWWa⟩:=gnX ((Wb).alloc (.cells #[.string p.1] 9));rw[hWWa]at SWa KWa RKWa RRWa;try rw[hWWa]
  try rw[hgWa]
  clear hWWa hgWa;refine hK.out _ _ (SnC.of SWa.o.box rfl rfl KWa.o) (fun hHeld=>?_);clear hHeld hK K;try simp only[Act.put,Zv,Zu,Zt]
  refine rdoX 5 (fun K hK=>?_);refine Wt Vm (.tmp 38) (.tmp 41) 24 (by rfl) (by rfl) (by rfl) (by rfl) (SWa.o.rows.get (i:=0) rfl rfl) (by rfl) RKWa.o (by simp only[Zl,Zk];rw[Hl0b.o];omega) (by show(_:Nat)≤1000;simp[Vm,rcE,Ww]) (by have:=SWa.o.box.lt;omega) ?_;intro Aw5 nw5 cw5 w5 hg;have Sw5:=Y8 (SWa.o.grow (i:=0) (Yk _) rfl hg);have Kw5:=Y8 (KWa.o.chg hg.chg (fun e=>by have:=Hl0.o _ e;omega));have RRw5:=Y8 (Rd.chg RRWa.o hg.chg (fun q hq e=>by have:=Hl0.o q e;have:gWb≤q:=hq;omega));clear hg;refine hK.out _ _ (SnC.of Sw5.o.box rfl rfl Kw5.o) (fun hHeld=>?_);clear hHeld hK K;try simp only[Act.put,Zv,Zu,Zt]
  refine tksX [12] 1 (SnC.of Sw5.o.box rfl rfl Kw5.o) ?_;simp only[Z3,Z4,Z5,Zw,Zx];(refine tkcX (v:=?_) ?_ ?_;rotate_left;(focus((intro wT hST;obtain⟨hS0,hS1,h0,h1,h2,h3,h4⟩:=hST;go_simp);(first|done|(with_reducible rfl))));(try simp only[Act.put,Zv,Zu,Zt]))
  refine Xp ?_;refine rdoX 11 (fun K hK=>?_);refine Wt rcE (.tmp 44) (.tmp 47) 25 (by rfl) (by rfl) (by rfl) (by rfl) (Sw5.o.rows.get (i:=1) rfl rfl) (by rfl) RRw5.o (by simp only[Zl,Zk];rw[Hl1b.o];omega) (by show(_:Nat)≤1000;simp[Vm,rcE,Ww]) (by have:=Sw5.o.box.lt;omega) ?_;intro Aw6 nw6 cw6 w6 hg;have Sw6:=Y8 (Sw5.o.grow (i:=1) (Yk _) rfl hg);have Kw6:=Y8 (Kw5.o.chg hg.chg (fun e=>by have:=Hl1.o _ e;omega));skip;clear hg;refine hK.out _ _ (SnC.of Sw6.o.box rfl rfl Kw6.o) (fun hHeld=>?_);clear hHeld hK K;try simp only[Act.put,Zv,Zu,Zt]
  refine dneX ?_;simp only[V5,Z6,Z7];have b2:=Sw6.o.box.at_ 2 (by simp);have b3:=Sw6.o.box.at_ 3 (by simp);have bf:=Sw6.o.box.fz;simp only[Zx,Zw]at b2 b3;have SZ:=Y8 (((Sw6.o.put (j:=2) (by simp) (.slice Aw5 nw5 cw5))).put (j:=3) (by simp) (.slice Aw6 nw6 cw6));have hsbl:=Sw6.o.box.lt;go_wp2_with fail;go_roundw;case rel=>exact⟨i+1,_,_,by omega,by go_num,by have:=SZ.o;rw[Za,Za,Zn,Zn,Hp.o];exact this⟩
  (simp[intOf];omega)
 have hd_i:=GEl i n3;obtain rfl:n3=i:=by omega
 have D1:=Y8 (H.o.ext S1.o.ext);have b0:wr.cell? ⟨b,0,none⟩=some (.pointer (some ⟨d.xb,0,none⟩)):=D1.o.c 0 rfl;have x4:wr.cell? ⟨d.xb,4,none⟩=some d.x.kv:=D1.o.shr.cells.at_ 4 (by show 4<6;omega);rw[Hv4.o]at x4;obtain⟨n4,hn4⟩:∃ x,d.x.ks.length=x:=⟨_,rfl⟩;rw[hn4]at x4;have Hn4:=Y8 hn4;have hn4b:n4≤100000:=by have:=H.o.xok.k;have:=Hn.o;omega
 have S4:=Y8 (show Zzj w wr sb [.int .i64 d.x.clock,.int .i64 d.x.sum,kv,rv,Em,Em,Em] [kv,rv,Em,Em,Em] [Vm.row (d.x.rs.map Prod.fst),rcE.row (d.x.rs.map Prod.snd),Vm.row [],Ww.row [],Ww.row []] from by
  have:=S1.o
  rwa [Zm (by rw[Zq,Hn3.o];exact Ym _),Zm (by rw[Zq,Hn3.o];exact Ym _)]at this)
 clear hn4 S1 D1;go_wp2_with fail;go_loopw [60] (fun o wr=>∃ (i:Nat) (lv ov:Value),i≤n4∧o=.int .i64 (i:Int)∧Zzj w wr sb [.int .i64 d.x.clock,.int .i64 d.x.sum,kv,rv,lv,ov,Em] [kv,rv,lv,ov,Em] [Vm.row (d.x.rs.map Prod.fst),rcE.row (d.x.rs.map Prod.snd),Vm.row ((d.x.ks.map Prod.fst).take i),Ww.row ((d.x.ks.map fun p=>p.2.ow).take i),Ww.row []]) (fun o _=>n4-(intOf o).toNat);case atStart=>exact⟨0,_,_,by omega,rfl,S4.o⟩
 obtain⟨i,lv,ov,hi,rfl,hS⟩:=hrel;rename World=>wr
 have S1:=Y8 hS;clear hS S4 b0 x4;by_cases hlt:i<n4
 ·obtain⟨hd_i,i0_i,i1_i⟩:=LTl i n4;obtain⟨p,hp⟩:∃ p,d.x.ks[i]?=some p:=⟨d.x.ks[i]'(by rw[Hn4.o];exact hlt),Zz _⟩;obtain⟨g,o,c',hvv,_,_,_,hgl,y0,y1,y2,y3,y4⟩:=KeptAt.get (Rd.ext (H.o.shr.ks) S1.o.ext) hp;rw[Hv4.o,Hn4.o]at hvv;obtain⟨rfl,-,rfl⟩:=slcX hvv;clear hvv;have Hp:=Y8 hp;clear hp;go_upto_region 10 with fail;have K1:=Y8 (Xm.new wr #[.string p.1,.int .i64 p.2.st,.int .i64 p.2.ow,.string p.2.nm,.int .i64 p.2.dl] 161);have S2:=Y8 (S1.o.up ((Yk _).alloc (.cells #[.string p.1,.int .i64 p.2.st,.int .i64 p.2.ow,.string p.2.nm,.int .i64 p.2.dl] 161)));obtain⟨kb,hkb⟩:=gnX (wr.heap.size);obtain⟨W,hW⟩:=gnX (wr.alloc (.cells #[.string p.1,.int .i64 p.2.st,.int .i64 p.2.ow,.string p.2.nm,.int .i64 p.2.dl] 161));rw[hW]at K1 S2;rw[hkb]at K1;try rw[hW]
  try rw[hkb]
  have Hl2:=Y8 (show ∀ q,lv.ownBlock=some q→q<kb from fun q hq=>by have:=((S1.o.rows.own 2 lv _ rfl rfl).lt q hq).2;omega);have Hl3:=Y8 (show ∀ q,ov.ownBlock=some q→q<kb from fun q hq=>by have:=((S1.o.rows.own 3 ov _ rfl rfl).lt q hq).2;omega);clear hW hkb y0 y1 y2 y3 y4 hgl;obtain⟨Ak,Ck,rfl,_,_⟩:=(S2.o.rows.get (E:=Vm) (i:=2) rfl rfl).shape;obtain⟨Ar,Cr,rfl,_,_⟩:=(S2.o.rows.get (E:=Ww) (i:=3) rfl rfl).shape;obtain⟨la,hla⟩:∃ x,(List.take i (List.map Prod.fst d.x.ks)).length=x:=⟨_,rfl⟩;obtain⟨lb,hlb⟩:∃ x,(List.take i (List.map (fun p=>p.2.ow) d.x.ks)).length=x:=⟨_,rfl⟩;rw[hla,hlb]at S2;rw[hla]at Hl2;rw[hlb]at Hl3;have hla2:la≤100000:=by rw[← hla,Zp];omega
  have hlb2:lb≤100000:=by rw[← hlb,Zp];omega
  have Hla:=Y8 hla;have Hlb:=Y8 hlb;try rw[hla]
  try rw[hlb]
  clear hla hlb S1;have Hl2b:=Hla;have Hl3b:=Hlb;have SWd:=Y8 (S2.o.up (Yk W).drew);have KWd:=Y8 K1.o.drew;refine Vd (S:=fun w'=>SnC w' sb kb 4 5 (.slice Ak la Ck) (.slice Ar lb Cr) p) 14 17 (by kernel_rfl) (by omega) (by kernel_rfl) (by kernel_rfl) ?_;obtain⟨Wd,hWd⟩:=gnX (W.drew);rw[hWd]at SWd KWd;rw[hWd];clear hWd S2 K1;refine tksX [0,1,2,3,6,7,8,9,10] 5 (SnC.of SWd.o.box rfl rfl KWd.o) ?_;simp only[Z3,Z4,Z5,Zw,Zx];repeat(refine tkcX (v:=?_) ?_ ?_;rotate_left;(focus((intro wT hST;obtain⟨hS0,hS1,h0,h1,h2,h3,h4⟩:=hST;go_simp);(first|done|(with_reducible rfl))));(try simp only[Act.put,Zv,Zu,Zt]))
  refine Xp ?_;refine rdyX (rs:=[4,11]) ?_;refine Yr (o:=_) rfl (fun K hK=>?_) (Yr (o:=_) rfl (fun K hK=>?_) Yq)
  ·go_simp;obtain⟨gWa,hgWa⟩:=gnX ((Wd).heap.size);have SWa:=Y8 (SWd.o.up ((Yk Wd).alloc (.cells #[.string p.1] 9)));have KWa:=Y8 (KWd.o.ext ((Yk Wd).alloc (.cells #[.string p.1] 9)));have RKWa:=Y8 (Mt p.1 9 Wd _ hgWa);have hkWa:kb<gWa:=by rw[← hgWa];exact KWd.o.lt
   skip;obtain⟨Wa,hWWa⟩:=gnX ((Wd).alloc (.cells #[.string p.1] 9));rw[hWWa]at SWa KWa RKWa;try rw[hWWa]
   try rw[hgWa]
   clear hWWa hgWa;refine hK.out _ _ (SnC.of SWa.o.box rfl rfl KWa.o) (fun hHeld=>?_);clear hHeld hK K;try simp only[Act.put,Zv,Zu,Zt]
   refine rdyX (rs:=[5,11]) ?_;refine Yr (o:=_) rfl (fun K hK=>?_) (Yr (o:=_) rfl (fun K hK=>?_) Yq)
   ·refine Wt Vm (.tmp 65) (.tmp 68) 24 (by rfl) (by rfl) (by rfl) (by rfl) (SWa.o.rows.get (i:=2) rfl rfl) (by rfl) RKWa.o (by simp only[Zl,Zk];rw[Hl2b.o];omega) (by show(_:Nat)≤1000;simp[Vm,rcE,Ww]) (by have:=SWa.o.box.lt;omega) ?_;intro Aw5 nw5 cw5 w5 hg;have Sw5:=Y8 (SWa.o.grow (i:=2) (Yk _) rfl hg);have Kw5:=Y8 (KWa.o.chg hg.chg (fun e=>by have:=Hl2.o _ e;omega));skip;clear hg;refine hK.out _ _ (SnC.of Sw5.o.box rfl rfl Kw5.o) (fun hHeld=>?_);clear hHeld hK K;try simp only[Act.put,Zv,Zu,Zt]
    refine tksX [13] 2 (SnC.of Sw5.o.box rfl rfl Kw5.o) ?_;simp only[Z3,Z4,Z5,Zw,Zx];(refine tkcX (v:=?_) ?_ ?_;rotate_left;(focus((intro wT hST;obtain⟨hS0,hS1,h0,h1,h2,h3,h4⟩:=hST;go_simp);(first|done|(with_reducible rfl))));(try simp only[Act.put,Zv,Zu,Zt]))
    refine Xp ?_;refine rdoX 11 (fun K hK=>?_);go_simp;obtain⟨gWb,hgWb⟩:=gnX ((w5).heap.size);have SWb:=Y8 (Sw5.o.up ((Yk w5).alloc (.cells #[.int .i64 p.2.ow] 3)));have KWb:=Y8 (Kw5.o.ext ((Yk w5).alloc (.cells #[.int .i64 p.2.ow] 3)));have RRWb:=Y8 (Lc p.2.ow 3 w5 _ hgWb);have hkWb:kb<gWb:=by rw[← hgWb];exact Kw5.o.lt
    skip;obtain⟨Wb,hWWb⟩:=gnX ((w5).alloc (.cells #[.int .i64 p.2.ow] 3));rw[hWWb]at SWb KWb RRWb;try rw[hWWb]
    try rw[hgWb]
    clear hWWb hgWb;refine hK.out _ _ (SnC.of SWb.o.box rfl rfl KWb.o) (fun hHeld=>?_);clear hHeld hK K;try simp only[Act.put,Zv,Zu,Zt]
    refine rdoX 12 (fun K hK=>?_);refine Wt Ww (.tmp 71) (.tmp 75) 22 (by rfl) (by rfl) (by rfl) (by rfl) (SWb.o.rows.get (i:=3) rfl rfl) (by rfl) RRWb.o (by simp only[Zl,Zk];rw[Hl3b.o];omega) (by show(_:Nat)≤1000;simp[Vm,rcE,Ww]) (by have:=SWb.o.box.lt;omega) ?_;intro Aw6 nw6 cw6 w6 hg;have Sw6:=Y8 (SWb.o.grow (i:=3) (Yk _) rfl hg);have Kw6:=Y8 (KWb.o.chg hg.chg (fun e=>by have:=Hl3.o _ e;omega));skip;clear hg;refine hK.out _ _ (SnC.of Sw6.o.box rfl rfl Kw6.o) (fun hHeld=>?_);clear hHeld hK K;try simp only[Act.put,Zv,Zu,Zt]
    refine dneX ?_;simp only[V5,Z6,Z7];have b2:=Sw6.o.box.at_ 4 (by simp);have b3:=Sw6.o.box.at_ 5 (by simp);have bf:=Sw6.o.box.fz;simp only[Zx,Zw]at b2 b3;have SZ:=Y8 (((Sw6.o.put (j:=4) (by simp) (.slice Aw5 nw5 cw5))).put (j:=5) (by simp) (.slice Aw6 nw6 cw6));have hsbl:=Sw6.o.box.lt;go_wp2_with fail;go_roundw;case rel=>exact⟨i+1,_,_,by omega,by go_num,by have:=SZ.o;rw[Za,Za,Zn,Zn,Hp.o];exact this⟩
    (simp[intOf];omega)
   go_simp;obtain⟨gWb,hgWb⟩:=gnX ((Wa).heap.size);have SWb:=Y8 (SWa.o.up ((Yk Wa).alloc (.cells #[.int .i64 p.2.ow] 3)));have KWb:=Y8 (KWa.o.ext ((Yk Wa).alloc (.cells #[.int .i64 p.2.ow] 3)));have RRWb:=Y8 (Lc p.2.ow 3 Wa _ hgWb);have hkWb:kb<gWb:=by rw[← hgWb];exact KWa.o.lt
   have RKWb:=Y8 (RdE.ext RKWa.o ((Yk Wa).alloc (.cells #[.int .i64 p.2.ow] 3)));obtain⟨Wb,hWWb⟩:=gnX ((Wa).alloc (.cells #[.int .i64 p.2.ow] 3));rw[hWWb]at SWb KWb RRWb RKWb;try rw[hWWb]
   try rw[hgWb]
   clear hWWb hgWb;refine hK.out _ _ (SnC.of SWb.o.box rfl rfl KWb.o) (fun hHeld=>?_);clear hHeld hK K;try simp only[Act.put,Zv,Zu,Zt]
   refine rdoX 5 (fun K hK=>?_);refine Wt Vm (.tmp 65) (.tmp 68) 24 (by rfl) (by rfl) (by rfl) (by rfl) (SWb.o.rows.get (i:=2) rfl rfl) (by rfl) RKWb.o (by simp only[Zl,Zk];rw[Hl2b.o];omega) (by show(_:Nat)≤1000;simp[Vm,rcE,Ww]) (by have:=SWb.o.box.lt;omega) ?_;intro Aw5 nw5 cw5 w5 hg;have Sw5:=Y8 (SWb.o.grow (i:=2) (Yk _) rfl hg);have Kw5:=Y8 (KWb.o.chg hg.chg (fun e=>by have:=Hl2.o _ e;omega));have RRw5:=Y8 (Rd.chg RRWb.o hg.chg (fun q hq e=>by have:=Hl2.o q e;have:gWb≤q:=hq;omega));clear hg;refine hK.out _ _ (SnC.of Sw5.o.box rfl rfl Kw5.o) (fun hHeld=>?_);clear hHeld hK K;try simp only[Act.put,Zv,Zu,Zt]
   refine tksX [13] 1 (SnC.of Sw5.o.box rfl rfl Kw5.o) ?_;simp only[Z3,Z4,Z5,Zw,Zx];(refine tkcX (v:=?_) ?_ ?_;rotate_left;(focus((intro wT hST;obtain⟨hS0,hS1,h0,h1,h2,h3,h4⟩:=hST;go_simp);(first|done|(with_reducible rfl))));(try simp only[Act.put,Zv,Zu,Zt]))
   refine Xp ?_;refine rdoX 12 (fun K hK=>?_);refine Wt Ww (.tmp 71) (.tmp 75) 22 (by rfl) (by rfl) (by rfl) (by rfl) (Sw5.o.rows.get (i:=3) rfl rfl) (by rfl) RRw5.o (by simp only[Zl,Zk];rw[Hl3b.o];omega) (by show(_:Nat)≤1000;simp[Vm,rcE,Ww]) (by have:=Sw5.o.box.lt;omega) ?_;intro Aw6 nw6 cw6 w6 hg;have Sw6:=Y8 (Sw5.o.grow (i:=3) (Yk _) rfl hg);have Kw6:=Y8 (Kw5.o.chg hg.chg (fun e=>by have:=Hl3.o _ e;omega));skip;clear hg;refine hK.out _ _ (SnC.of Sw6.o.box rfl rfl Kw6.o) (fun hHeld=>?_);clear hHeld hK K;try simp only[Act.put,Zv,Zu,Zt]
   refine dneX ?_;simp only[V5,Z6,Z7];have b2:=Sw6.o.box.at_ 4 (by simp);have b3:=Sw6.o.box.at_ 5 (by simp);have bf:=Sw6.o.box.fz;simp only[Zx,Zw]at b2 b3;have SZ:=Y8 (((Sw6.o.put (j:=4) (by simp) (.slice Aw5 nw5 cw5))).put (j:=5) (by simp) (.slice Aw6 nw6 cw6));have hsbl:=Sw6.o.box.lt;go_wp2_with fail;go_roundw;case rel=>exact⟨i+1,_,_,by omega,by go_num,by have:=SZ.o;rw[Za,Za,Zn,Zn,Hp.o];exact this⟩
   (simp[intOf];omega)
  go_simp;obtain⟨gWb,hgWb⟩:=gnX ((Wd).heap.size);have SWb:=Y8 (SWd.o.up ((Yk Wd).alloc (.cells #[.int .i64 p.2.ow] 3)));have KWb:=Y8 (KWd.o.ext ((Yk Wd).alloc (.cells #[.int .i64 p.2.ow] 3)));have RRWb:=Y8 (Lc p.2.ow 3 Wd _ hgWb);have hkWb:kb<gWb:=by rw[← hgWb];exact KWd.o.lt
  skip;obtain⟨Wb,hWWb⟩:=gnX ((Wd).alloc (.cells #[.int .i64 p.2.ow] 3));rw[hWWb]at SWb KWb RRWb;try rw[hWWb]
  try rw[hgWb]
  clear hWWb hgWb;refine hK.out _ _ (SnC.of SWb.o.box rfl rfl KWb.o) (fun hHeld=>?_);clear hHeld hK K;try simp only[Act.put,Zv,Zu,Zt]
  refine rdoX 4 (fun K hK=>?_);go_simp;obtain⟨gWa,hgWa⟩:=gnX ((Wb).heap.size);have SWa:=Y8 (SWb.o.up ((Yk Wb).alloc (.cells #[.string p.1] 9)));have KWa:=Y8 (KWb.o.ext ((Yk Wb).alloc (.cells #[.string p.1] 9)));have RKWa:=Y8 (Mt p.1 9 Wb _ hgWa);have hkWa:kb<gWa:=by rw[← hgWa];exact KWb.o.lt
  have RRWa:=Y8 (RdE.ext RRWb.o ((Yk Wb).alloc (.cells #[.string p.1] 9)));obtain⟨Wa,hWWa⟩:=gnX ((Wb).alloc (.cells #[.string p.1] 9));rw[hWWa]at SWa KWa RKWa RRWa;try rw[hWWa]
  try rw[hgWa]
  clear hWWa hgWa;refine hK.out _ _ (SnC.of SWa.o.box rfl rfl KWa.o) (fun hHeld=>?_);clear hHeld hK K;try simp only[Act.put,Zv,Zu,Zt]
  refine rdoX 5 (fun K hK=>?_);refine Wt Vm (.tmp 65) (.tmp 68) 24 (by rfl) (by rfl) (by rfl) (by rfl) (SWa.o.rows.get (i:=2) rfl rfl) (by rfl) RKWa.o (by simp only[Zl,Zk];rw[Hl2b.o];omega) (by show(_:Nat)≤1000;simp[Vm,rcE,Ww]) (by have:=SWa.o.box.lt;omega) ?_;intro Aw5 nw5 cw5 w5 hg;have Sw5:=Y8 (SWa.o.grow (i:=2) (Yk _) rfl hg);have Kw5:=Y8 (KWa.o.chg hg.chg (fun e=>by have:=Hl2.o _ e;omega));have RRw5:=Y8 (Rd.chg RRWa.o hg.chg (fun q hq e=>by have:=Hl2.o q e;have:gWb≤q:=hq;omega));clear hg;refine hK.out _ _ (SnC.of Sw5.o.box rfl rfl Kw5.o) (fun hHeld=>?_);clear hHeld hK K;try simp only[Act.put,Zv,Zu,Zt]
  refine tksX [13] 1 (SnC.of Sw5.o.box rfl rfl Kw5.o) ?_;simp only[Z3,Z4,Z5,Zw,Zx];(refine tkcX (v:=?_) ?_ ?_;rotate_left;(focus((intro wT hST;obtain⟨hS0,hS1,h0,h1,h2,h3,h4⟩:=hST;go_simp);(first|done|(with_reducible rfl))));(try simp only[Act.put,Zv,Zu,Zt]))
  refine Xp ?_;refine rdoX 12 (fun K hK=>?_);refine Wt Ww (.tmp 71) (.tmp 75) 22 (by rfl) (by rfl) (by rfl) (by rfl) (Sw5.o.rows.get (i:=3) rfl rfl) (by rfl) RRw5.o (by simp only[Zl,Zk];rw[Hl3b.o];omega) (by show(_:Nat)≤1000;simp[Vm,rcE,Ww]) (by have:=Sw5.o.box.lt;omega) ?_;intro Aw6 nw6 cw6 w6 hg;have Sw6:=Y8 (Sw5.o.grow (i:=3) (Yk _) rfl hg);have Kw6:=Y8 (Kw5.o.chg hg.chg (fun e=>by have:=Hl3.o _ e;omega));skip;clear hg;refine hK.out _ _ (SnC.of Sw6.o.box rfl rfl Kw6.o) (fun hHeld=>?_);clear hHeld hK K;try simp only[Act.put,Zv,Zu,Zt]
  refine dneX ?_;simp only[V5,Z6,Z7];have b2:=Sw6.o.box.at_ 4 (by simp);have b3:=Sw6.o.box.at_ 5 (by simp);have bf:=Sw6.o.box.fz;simp only[Zx,Zw]at b2 b3;have SZ:=Y8 (((Sw6.o.put (j:=4) (by simp) (.slice Aw5 nw5 cw5))).put (j:=5) (by simp) (.slice Aw6 nw6 cw6));have hsbl:=Sw6.o.box.lt;go_wp2_with fail;go_roundw;case rel=>exact⟨i+1,_,_,by omega,by go_num,by have:=SZ.o;rw[Za,Za,Zn,Zn,Hp.o];exact this⟩
  (simp[intOf];omega)
 have hd_i:=GEl i n4;obtain rfl:n4=i:=by omega
 have D1:=Y8 (H.o.ext S1.o.ext);have b1:wr.cell? ⟨b,1,none⟩=some d.mv:=D1.o.c 1 rfl;obtain⟨Am,Cm,hmv,hlm,hcm⟩:=RdE.shape H.o.ptr;obtain⟨n5,hn5⟩:=gnX (d.ms.length);rw[Zq,hn5]at hmv hlm;rw[hmv]at b1;have Hn5:=Y8 hn5;have Hmv:=Y8 hmv;have hn5b:n5≤64:=by rw[← hn5];exact H.o.lm
 have S5:=Y8 (show Zzj w wr sb [.int .i64 d.x.clock,.int .i64 d.x.sum,kv,rv,lv,ov,Em] [kv,rv,lv,ov,Em] [Vm.row (d.x.rs.map Prod.fst),rcE.row (d.x.rs.map Prod.snd),Vm.row (d.x.ks.map Prod.fst),Ww.row (d.x.ks.map fun p=>p.2.ow),Ww.row []] from by
  have:=S1.o
  rwa [Zm (by rw[Zq,Hn4.o];exact Ym _),Zm (by rw[Zq,Hn4.o];exact Ym _)]at this)
 clear hn5 hmv S1 D1;go_wp2_with fail;go_loopw [85] (fun o wr=>∃ (i:Nat) (pv:Value),i≤n5∧o=.int .i64 (i:Int)∧Zzj w wr sb [.int .i64 d.x.clock,.int .i64 d.x.sum,kv,rv,lv,ov,pv] [kv,rv,lv,ov,pv] [Vm.row (d.x.rs.map Prod.fst),rcE.row (d.x.rs.map Prod.snd),Vm.row (d.x.ks.map Prod.fst),Ww.row (d.x.ks.map fun p=>p.2.ow),Ww.row ((d.ms.map fun p=>p.2.st).take i)]) (fun o _=>n5-(intOf o).toNat);case atStart=>exact⟨0,_,by omega,rfl,S5.o⟩
 obtain⟨i,pv,hi,rfl,hS⟩:=hrel;rename World=>wr
 have S1:=Y8 hS;clear hS S5 b1;by_cases hlt:i<n5
 ·obtain⟨hd_i,i0_i,i1_i⟩:=LTl i n5;obtain⟨⟨mb,m⟩,hm⟩:∃ p,d.ms[i]?=some p:=⟨d.ms[i]'(by rw[Hn5.o];exact hlt),Zz _⟩;have D1:=Y8 (H.o.ext S1.o.ext);obtain⟨gm,om,cm,hmv2,cm1⟩:=On D1.o.ptr (k:=i) (x:=mb) (by rw[Zn,hm];rfl);rw[Zq,Hn5.o,Hmv.o]at hmv2;obtain⟨rfl,-,rfl⟩:=slcX hmv2;clear hmv2;have z13:wr.cell? ⟨mb,13,none⟩=some (.int .i64 m.st):=((D1.o.mach _ (Zy hm)).1).c 13 rfl;have hml:=((D1.o.mach _ (Zy hm)).1).cells.lt;have hsl:=S1.o.box.lt;have b6:=S1.o.box.at_ 6 (by simp);simp only[Zx,Zw]at b6;obtain⟨Ap,Cp,rfl,_,_⟩:=(S1.o.rows.get (E:=Ww) (i:=4) rfl rfl).shape;obtain⟨lp,hlp⟩:=gnX ((List.take i (d.ms.map fun p=>p.2.st)).length);have hlp2:lp≤64:=by rw[← hlp,Zp];omega
  rw[hlp]at S1 b6;have Hlp:=Y8 hlp;have Hm:=Y8 hm;unfold Zkp at cm1;clear hlp D1 hm;go_upto_region 15 with fail;go_region_law ((refine Wt Ww (.tmp 90) (.tmp 95) 22 (by rfl) (by rfl) (by rfl) (by rfl) ((S1.o.up ((Yk wr).alloc (.cells #[.int .i64 m.st] 3)).drew).rows.get (i:=4) rfl rfl) (by rfl) (RdE.ext (Lc m.st 3 wr _ rfl) (Yk _).drew) (by simp only[Zl,Zk];rw[Hlp.o];omega) (by show(8:Nat)≤1000;omega) (S1.o.up ((Yk wr).alloc (.cells #[.int .i64 m.st] 3)).drew).box.lt ?_);intro A7 n7 c7 w7 hg7;have S7:=Y8 ((S1.o.up ((Yk wr).alloc (.cells #[.int .i64 m.st] 3)).drew).grow (i:=4) (Yk _) rfl hg7);have b6':=S7.o.box.at_ 6 (by simp);have bf:=S7.o.box.fz;(simp only[Zx,Zw]at b6');clear hg7);all_goals
   have SZ:=Y8 (S7.o.put (j:=6) (by simp) (.slice A7 n7 c7));have hsbl:=S7.o.box.lt;go_wp2_with fail;go_roundw;case rel=>exact⟨i+1,_,by omega,by go_num,by have:=SZ.o;rw[Za,Zn,Hm.o];exact this⟩
   (simp[intOf];omega)
 have hd_i:=GEl i n5;obtain rfl:n5=i:=by omega
 have S6:=Y8 (show Zzj w wr sb [.int .i64 d.x.clock,.int .i64 d.x.sum,kv,rv,lv,ov,pv] [kv,rv,lv,ov,pv] [Vm.row (d.x.rs.map Prod.fst),rcE.row (d.x.rs.map Prod.snd),Vm.row (d.x.ks.map Prod.fst),Ww.row (d.x.ks.map fun p=>p.2.ow),Ww.row (d.ms.map fun p=>p.2.st)] from by
  have:=S1.o
  rwa [Zm (by rw[Zq,Hn5.o];exact Ym _)]at this)
 clear S1;obtain⟨A0,C0,rfl,_,_⟩:=(S6.o.rows.get (E:=Vm) (i:=0) rfl rfl).shape;obtain⟨A1,C1,rfl,_,_⟩:=(S6.o.rows.get (E:=rcE) (i:=1) rfl rfl).shape;obtain⟨A2,C2,rfl,_,_⟩:=(S6.o.rows.get (E:=Vm) (i:=2) rfl rfl).shape;obtain⟨A5,C5,rfl,_,_⟩:=(S6.o.rows.get (E:=Ww) (i:=3) rfl rfl).shape;obtain⟨A6,C6,rfl,_,_⟩:=(S6.o.rows.get (E:=Ww) (i:=4) rfl rfl).shape;obtain⟨m0,hm0⟩:∃ x,(d.x.rs.map Prod.fst).length=x:=⟨_,rfl⟩;obtain⟨m1,hm1⟩:∃ x,(d.x.rs.map Prod.snd).length=x:=⟨_,rfl⟩;obtain⟨m2,hm2⟩:∃ x,(d.x.ks.map Prod.fst).length=x:=⟨_,rfl⟩;obtain⟨m3,hm3⟩:∃ x,(d.x.ks.map fun p=>p.2.ow).length=x:=⟨_,rfl⟩;obtain⟨m4,hm4⟩:=gnX ((d.ms.map fun p=>p.2.st).length);rw[hm0,hm1,hm2,hm3,hm4]at S6;clear hm0 hm1 hm2 hm3 hm4;have t0:=S6.o.box.at_ 0 (by simp);have t1:=S6.o.box.at_ 1 (by simp);have t2:=S6.o.box.at_ 2 (by simp);have t3:=S6.o.box.at_ 3 (by simp);have t4:=S6.o.box.at_ 4 (by simp);have t5:=S6.o.box.at_ 5 (by simp);have t6:=S6.o.box.at_ 6 (by simp);simp only[Zx,Zw]at t0 t1 t2 t3 t4 t5 t6;have hthere:wr.there rb 0 7:=fun j hj=>by
  have hR:=S6.o.res;rw[Hrb.o]at hR;rw[Zg7];exact⟨by rw[hR.at_ j (by simp;omega),Zz (by simp;omega)];rfl,hR.fz j⟩
 have hone:=Zd8 (show ∀ v∈([.int .i64 d.x.clock,.int .i64 d.x.sum,.slice A0 m0 C0,.slice A1 m1 C1,.slice A2 m2 C2,.slice A5 m3 C5,.slice A6 m4 C6]:List Value),v.oneCell'=true from by
  intro v hv;simp only[Zg,Zh,Zfi]at hv;rcases hv with rfl|rfl|rfl|rfl|rfl|rfl|rfl<;>rfl)
 have hrange:=Zcz wr rb 0 [.int .i64 d.x.clock,.int .i64 d.x.sum,.slice A0 m0 C0,.slice A1 m1 C1,.slice A2 m2 C2,.slice A5 m3 C5,.slice A6 m4 C6] hthere;have cst:=Xe (S:=(· = rb)) (b:=rb) (.inl rfl) (vs:=[.int .i64 d.x.clock,.int .i64 d.x.sum,.slice A0 m0 C0,.slice A1 m1 C1,.slice A2 m2 C2,.slice A5 m3 C5,.slice A6 m4 C6]) (o:=0) (Chg.refl (· = rb) wr);have ZX:=Y8 (S6.o.ext.chg_new cst (fun q e=>by have:=Hrb.o;omega));have ZR:=Y8 (S6.o.rows.chg cst (fun q hq e=>by omega));have Hra:=Y8 hrange;have Hth:=Y8 hthere;have hsl:=S6.o.box.lt;have hwr:=S6.o.ext.size;clear cst hrange hthere;go_wp2_with (refine Zeu rfl _ _ _ rfl rb 0 ([.int .i64 d.x.clock,.int .i64 d.x.sum,.slice A0 m0 C0,.slice A1 m1 C1,.slice A2 m2 C2,.slice A5 m3 C5,.slice A6 m4 C6]:List Value).toArray rfl rfl Hth.o (by rw[Zr5];rfl) hone ?_);have q0:=Hra.o 0 _ rfl;have q1:=Hra.o 1 _ rfl;have q2:=Hra.o 2 _ rfl;have q3:=Hra.o 3 _ rfl;have q4:=Hra.o 4 _ rfl;have q5:=Hra.o 5 _ rfl;have q6:=Hra.o 6 _ rfl;simp only[Zg7]at q0 q1 q2 q3 q4 q5 q6;obtain⟨W9,hW9⟩:=gnX (wr.setCells rb 0 [.int .i64 d.x.clock,.int .i64 d.x.sum,.slice A0 m0 C0,.slice A1 m1 C1,.slice A2 m2 C2,.slice A5 m3 C5,.slice A6 m4 C6]);rw[hW9]at ZX ZR q0 q1 q2 q3 q4 q5 q6;rw[show wr.setCells rb 0 ([.int .i64 d.x.clock,.int .i64 d.x.sum,.slice A0 m0 C0,.slice A1 m1 C1,.slice A2 m2 C2,.slice A5 m3 C5,.slice A6 m4 C6]:List Value).toArray.toList=W9 from hW9];clear Hra Hth hone hW9;have rdd:∀ {α:Type} {E:Enc α} {i:Nat} {v:Value} {l:List α},Own E W9 (sb+1) v l→RdE E W9 (fun k=>w.heap.size≤k) v l:=fun o=>Rd.mono o.rd fun k hk _=>by have:=Hrb.o;omega
 refine Ys (v:=.agg #[.int .i64 d.x.clock,.int .i64 d.x.sum,.slice A0 m0 C0,.slice A1 m1 C1,.slice A2 m2 C2,.slice A5 m3 C5,.slice A6 m4 C6]) (by simp[results,results38,go_sem,q0,q1,q2,q3,q4,q5,q6]) rfl ?_;exact⟨_,_,_,_,_,rfl,rdd (i:=0) (ZR.o.get (E:=Vm) (i:=0) rfl rfl),rdd (i:=0) (ZR.o.get (E:=rcE) (i:=1) rfl rfl),rdd (i:=0) (ZR.o.get (E:=Vm) (i:=2) rfl rfl),rdd (i:=0) (ZR.o.get (E:=Ww) (i:=3) rfl rfl),rdd (i:=0) (ZR.o.get (E:=Ww) (i:=4) rfl rfl),ZX.o⟩
theorem Zpc(va vb:Value)(l:List Rc)(S T:Nat→Prop)(w:World)(ha:Q4 w S va l)(hb:Q4 w T vb l) :
 Calls prog 40 #[va,vb] w fun e w'=>e=.returned (.bool true)∧Ext w w':=by
 have Ha:=Y8 ha;have Hb:=Y8 hb;obtain⟨_,A,ca,rfl,ha1,ha2,_⟩:=ha;obtain⟨_,B,cb,rfl,hb1,hb2,_⟩:=hb;obtain⟨n,hn⟩:=gnX (l.length);rw[hn]at ha1 hb1⊢;have Hn:=Y8 hn;unfold maxLen at ha2 hb2;clear hn;go_enter func40,ntmps40;go_wp2_with fail;go_loopw [13] (fun o wr=>∃ i:Nat,i≤n∧o=.int .i64 (i:Int)∧Ext w wr) (fun o _=>n-(intOf o).toNat);case atStart=>exact⟨0,by omega,rfl,Yk _⟩
 obtain⟨i,hi,rfl,hx⟩:=hrel;by_cases hin:i<n
 ·have hd:decide ((i:Int)<(n:Int))=true:=by simpa using hin
  obtain⟨r,hr⟩:∃ r,l[i]?=some r:=⟨l[i]'(by have:=Hn.o;omega),by simp⟩;obtain⟨ga,oa,c1,e1,_,_,_,x0,x1,x2,x3⟩:=V7 (Rd.ext Ha.o hx) hr;obtain⟨gb,ob,c2,e2,_,_,_,y0,y1,y2,y3⟩:=V7 (Rd.ext Hb.o hx) hr;rw[Hn.o]at e1 e2;simp only[Yd,Zg0]at e1 e2;obtain⟨rfl,rfl⟩:=e1;obtain⟨rfl,rfl⟩:=e2;have i0:(0:Int)≤(i:Int):=by omega
  have i1:(i:Int)<(n:Int):=by omega
  have Hx:=Y8 hx;clear hx hr;go_wp2_with fail;go_quiet (fail);go_wp2_with fail;go_roundw;case rel=>exact⟨i+1,by omega,by go_num,Hx.o.drewN _⟩
  simp[intOf];omega
 have hd:decide ((i:Int)<(n:Int))=false:=by simp;omega
 go_wp2_with fail;go_ret;exact⟨rfl,hx⟩
structure Zgt(cl cp:Int)(os:List Opn)(rs:List Kp)(clock:Int):Prop where
 rcd:∃ tk,Ue cl cp 0 [] (Uw os (Us os))=some (rs,tk)∧tk≤clock
 chk:∀ e∈Uw os (Us os),Vn e=0
 ks:∀ e∈Uw os (Us os),KS e.names
 len:(Uw os (Us os)).length≤4096
 n16:∀ o∈os,o.ns.length*48≤140737488351232
 ol:os.length≤610000000000
theorem Ziu(os:List Opn):(Us os).length≤os.length:=by
 have h:=Kb os;have nd:(Us os).Nodup:=h.asc.imp fun {i j} hij e=>by
  subst e;unfold lxO at hij;simp at hij
 have hp:(Us os).Perm ((List.range os.length).filter fun i=>decide (i∈Us os)):=(List.perm_ext_iff_of_nodup nd (List.Pairwise.filter _ List.nodup_range)).2 fun i=>by
  rw[Ze3,Zf8,Zgh];exact⟨fun hi=>⟨Fy ((h.mem i).1 hi),hi⟩,fun hi=>hi.2⟩
 have h1:=hp.length_eq;have h2:=Zdb (fun i=>decide (i∈Us os)) (List.range os.length);rw[Zdk]at h2;omega
theorem Zho{d:Dk}{cl cp:Int}(h:Qt (cl,cp) d)(hi:Zk2 d)(hcl:cl≤64)(lo:d.ops.length≤4096)(n16:∀ o∈d.ops,o.1.ns.length≤16∧Zz0 o.1):Zgt cl cp (d.ops.map Subtype.val) d.x.rs d.x.clock:=by
 have hm:∀ m∈d.ms.map Prod.snd,m.st=0:=fun m hm=>by
  obtain⟨k,hk⟩:=Zgd hm;rw[Zn,Zg9]at hk;obtain⟨p,hp,rfl⟩:=hk;exact(hi k p hp).1
 have hf:∀ o∈d.ops.map Subtype.val,o.ns.length≤16∧Zz0 o:=fun o ho=>by
  obtain⟨x,hx,rfl⟩:=Zgg.1 ho;exact n16 x hx
 have hl:=Ziu (d.ops.map Subtype.val);have hr:=Lin.rec h.1 h.2.2 hm hcl fun o ho=>(hf o ho).2.2.2.2.2.2
 refine⟨hr.1,hr.2,fun e he=>?_,?_,fun o ho=>?_,?_⟩
 ·obtain⟨o,ho,en⟩:=Zrx he;rw[en];exact(hf o ho).2.2.2.2.2.1
 ·have:=Zry (d.ops.map Subtype.val) (Us (d.ops.map Subtype.val));rw[Zq]at hl;omega
 ·have:=(hf o ho).1;omega
 rw[Zq];omega
theorem Wu.opsAt{w:World}{U:Nat→Prop}{T:Tbl}{b B:Nat}{d:Dk}(D:Wu w U T b B d):Gt w (fun _=>True) d.ov (d.ops.map Subtype.val):=by
 refine⟨?_,fun o ho=>?_⟩
 ·rw[Zq];exact Rd.mono (Own.rd (E:=opE) D.own) fun _ _ _=>trivial
 obtain⟨x,hx,rfl⟩:=Zgg.1 ho;exact Rd.mono (D.nms x hx) fun _ _ _=>trivial
theorem Zmp(l:List Kp):(Dn l).map encStr=(l.map Prod.fst).map Value.string:=by
 rw[Dn,Zez,Zez];exact List.map_congr_left fun p _=>Zs6 p.1
theorem Zmk{w:World}{U:Nat→Prop}{T:Tbl}{b B n:Nat}{cp:Int}{d:Dk}(h:Wu w U T b B d)(hml:d.ms.length=n)(hmn:∀ (i:Nat) p,d.ms[i]?=some p→p.2=Tx i)(hx:d.x=Zti n cp)(ht:d.t=0)(ho:d.ops=[]):Qt ((n:Int),cp) d:=by
 unfold Qt Zk5;rw[ho,hx,ht];refine⟨Lin.start (fun k m hk=>?_) ?_ rfl rfl rfl rfl,Ztn.none rfl,Znn.none rfl⟩
 ·rw[Zn,Zg9]at hk;obtain⟨p,hp,rfl⟩:=hk;have e:=hmn k p hp;have hlt:=(Zr.1 hp).1;refine⟨by rw[e];rfl,by show(k:Int)<(n:Int);omega,(h.mach p (Zy hp)).2,by rw[e];rfl⟩
 rw[Zq];exact h.ll
theorem Zi2{w:World}{U:Nat→Prop}{T:Tbl}{b B:Nat}{d:Dk}(h:Wu w U T b B d):wrk d≤136*d.ms.length+136*load d:=by
 have h1:=Zkm rank 136 (l:=d.ms.map Prod.snd) fun m hm=>by
  obtain⟨p,hp,rfl⟩:=Zgg.1 hm;exact Zin (h.mach p hp).2
 rw[Zq]at h1;unfold wrk work load;omega
namespace journalDesk
theorem walk(a0:Option Addr)(len0 cap0:Nat)(z0:List Int)(a1:Option Addr)(len1 cap1:Nat)(z1:List Int)(a2:Option Addr)(len2 cap2:Nat)(z2:List Int)(w:World)
 (w0:IsRow .i64 w a0 len0 cap0 z0) (w1:IsRow .i64 w a1 len1 cap1 z1) (w2:IsRow .i64 w a2 len2 cap2 z2) :
 Calls prog 8 #[.slice a0 len0 cap0,.slice a1 len1 cap1,.slice a2 len2 cap2] w fun e w'=>e=.returned (.bool true)∧Below w.heap.size w w':=by
 have R0:=Y8 (Eu.of_row w0);have R1:=Y8 (Eu.of_row w1);have R2:=Y8 (Eu.of_row w2);clear w0 w1 w2;go_enter func8,ntmps8;go_wp2_with fail;refine(Zn1 _ _ _ _ R2.o).mono ?_;rintro e wb ⟨cl,cp,h1,h2,h3,h4,rfl,hxb⟩;obtain⟨n,rfl⟩:∃ n:Nat,cl=n:=⟨cl.toNat,by omega⟩;have Hc:=Y8 (Zn0 h1 h2 h3 h4);have X1:=Y8 hxb;have hn0:0<n:=by omega
 have hn4:n≤4:=by omega
 clear hxb h1 h2 h3 h4;go_upto_region 2 with fail;have CB:=Y8 (Xm.new wb #[.int .i64 (n:Int),.int .i64 cp] 37);have X2:=Y8 (X1.o.trans ((Yk wb).alloc (.cells #[.int .i64 (n:Int),.int .i64 cp] 37)));obtain⟨cb,hcb⟩:=gnX (wb.heap.size);obtain⟨W1,hW1⟩:=gnX (wb.alloc (.cells #[.int .i64 (n:Int),.int .i64 cp] 37));rw[hcb,hW1]at CB;rw[hW1]at X2;rw[hW1,hcb];clear hW1 hcb X1;refine Zg8 (S:=fun w'=>w'.cell? ⟨cb,0,none⟩=some (.int .i64 (n:Int))∧w'.cell? ⟨cb,1,none⟩=some (.int .i64 cp)) (by kernel_rfl) ⟨CB.o.at_ 0 (by simp),CB.o.at_ 1 (by simp)⟩ (fun hHeld=>?_);have CD:=Y8 (CB.o.ext (Yk W1).drew);have XD:=Y8 X2.o.drew;obtain⟨Wd,hWd⟩:=gnX (W1.drew);rw[hWd]at CD XD hHeld;rw[hWd];clear hWd CB X2;refine tksX [0,2] 7 hHeld ?_;simp only[Z3,Z4,Z5,Zw,Zx];repeat(refine tkcX (v:=?_) ?_ ?_;rotate_left;(focus((intro wT hST;(try obtain⟨hS1,hS2⟩:=hST);go_simp);(first|done|(with_reducible rfl))));(try simp only[Act.put,Zv,Zu,Zt]))
 refine Xp ?_;clear hHeld;refine rdoX 1 (fun K hK=>?_);go_simp;refine(Ztu _ _ _ _ (Eu.extE R1.o XD.o)).mono ?_;rintro e wa ⟨T,rfl,hT,hf,hu,hk,hxa⟩;have G:=Y8 (Zjd hf hu hk);have TA:=Y8 hT;have CA:=Y8 (CD.o.ext hxa);have XA:=Y8 (XD.o.trans hxa);clear hT hf hu hk hxa CD XD;refine hK.out _ _ ⟨CA.o.at_ 0 (by simp),CA.o.at_ 1 (by simp)⟩ (fun hHeld=>?_);clear hHeld hK K;try simp only[Act.put,Zv,Zu,Zt]
 refine rdoX 3 (fun K hK=>?_);go_simp;refine(Zy4 T G.o n cp hn0 (by omega) Hc.o _ TA.o).mono ?_;rintro e w2 ⟨b,d,U,rfl,hD,hml,hmn,hq1,hn',ht',hq2,hq3,hq4,hx2⟩;obtain⟨B,hB⟩:=gnX (wa.heap.size);rw[hB]at hD;have hcB:cb<B:=by rw[← hB];exact CA.o.lt
 have HwB:=Y8 (show w.heap.size≤B by rw[← hB];exact XA.o.size);have D2:=Y8 hD;have L2:=Y8 (Zmk hD hml hmn hq1 ht' hq2);have Hld0:=Y8 (show load d=0 by unfold load;rw[hq2,hq4];simp);have Hml:=Y8 hml;have Hn0:=Y8 hn';have Ht0:=Y8 ht';have C2:=Y8 (CA.o.ext hx2);have X3:=Y8 (XA.o.trans hx2);clear hD hml hmn hn' ht' hx2 hB CA XA TA hq1 hq2 hq3 hq4;refine hK.out _ _ ⟨C2.o.at_ 0 (by simp),C2.o.at_ 1 (by simp)⟩ (fun hHeld=>?_);clear hK K;try simp only[Act.put,Zv,Zu,Zt]
 refine tksX [4,5,6,7,8] 0 hHeld ?_;simp only[Z3,Z4,Z5,Zw,Zx];repeat(refine tkcX (v:=?_) ?_ ?_;rotate_left;(focus((intro wT hST;(try obtain⟨hS1,hS2⟩:=hST);go_simp);(first|done|(with_reducible rfl))));(try simp only[Act.put,Zv,Zu,Zt]))
 refine Xp ?_;clear hHeld;refine dneX ?_;go_wp2_with fail;refine(Zyd _ _ _ _ (Eu.extE R0.o X3.o)).mono ?_;rintro e w3 ⟨v,l,rfl,hv,hl65,hx3⟩;have D3:=Y8 (D2.o.ext hx3);have C3:=Y8 (C2.o.ext hx3);have X4:=Y8 (X3.o.trans hx3);obtain⟨Al,Cl,rfl,_,_⟩:=hv.shape;obtain⟨m,hm⟩:=gnX (l.length);have HL:=Y8 (show RdE Zvj w3 (fun k=>¬ U k) (.slice Al l.length Cl) l from Rd.mono hv fun k hk _ hu=>by have:=(D2.o.hU k hu).2;have hk:w2.heap.size≤k:=hk;omega);have Hm:=Y8 hm;rw[hm]at HL hl65;rw[hm];clear hv hx3 hm D2 C2 X3;go_wp2_with fail;go_loopw [39] (fun o wr=>∃ (i:Nat) (d:Dk) (U:Nat→Prop),i≤m∧o=.int .i64 (i:Int)∧Wu wr U T b B d∧(Qt ((n:Int),cp) d∧load d≤i)∧d.ms.length=n∧d.n≤i∧d.t=i∧Ext w wr∧Xm wr cb [.int .i64 (n:Int),.int .i64 cp]∧RdE Zvj wr (fun k=>¬ U k) (.slice Al m Cl) l) (fun o _=>m-(intOf o).toNat);case atStart=>exact⟨0,d,U,by omega,rfl,D3.o,⟨L2.o,by rw[Hld0.o];exact Ym _⟩,Hml.o,by rw[Hn0.o];omega,Ht0.o,X4.o,C3.o,HL.o⟩
 clear D3 C3 L2 Hml Hn0 Ht0 HL X4 Hld0 d U;obtain⟨i,d,U,hi,rfl,hD,⟨hL,hld⟩,hml,hn',ht',hx,hc,hl⟩:=hrel;have Hld:=Y8 hld;clear hld;rename World=>wr
 have D1:=Y8 hD;have L1:=Y8 hL;have Hml:=Y8 hml;have Hn0:=Y8 hn';have Ht0:=Y8 ht';have X5:=Y8 hx;have C5:=Y8 hc;have HL:=Y8 hl;clear hD hL hml hn' ht' hx hc hl;by_cases hlt:i<m
 ·obtain⟨hd_i,i0_i,i1_i⟩:=LTl i m;obtain⟨a,ha⟩:=geX (l:=l) (i:=i) (by rw[Hm.o];exact hlt);obtain⟨g,o,c',hvv,_,_,_,hgl,hcc⟩:=Rd.at_ HL.o (k:=i) (by rw[Hm.o];exact hlt);obtain⟨rfl,-,rfl⟩:=slcX hvv;clear hvv;obtain⟨e0,e1,e2,e3⟩:=Zx4 ha;have a0:=hcc _ _ e0;have a1:=hcc _ _ e1;have a2:=hcc _ _ e2;have a3:=hcc _ _ e3;rw[← Zfh]at a1 a2 a3;clear hcc e0 e1 e2 e3 ha;go_wp2_with fail;refine(Zjk T G.o.few G.o b B d a.kind a.cl a.n a.text _ (D1.o.ext ((Yk _).alloc _)) (by have:=Hn0.o;omega) (by have:=Ht0.o;omega) L1.o (by rw[Hml.o];exact hn0)).mono ?_;rintro e w7 ⟨r,d',U',rfl,hD,hL,hC0,hml',ht',hn',hu'⟩;have hC:Chg (fun k=>B≤k) _ _:=hC0.mono fun q _ hq=>(D1.o.hU q hq).1
  have D7:=Y8 hD;have L7:=Y8 hL;have xa:=(Yk wr).alloc (.cells #[.int .i64 a.kind,.int .i64 a.cl,.int .i64 a.n,.string a.text] 78);have X7:=Y8 ((X5.o.trans xa).chg_new hC (fun q hq=>Zgo HwB.o hq));have C7:=Y8 ((C5.o.ext xa).chg hC (by omega));have h8:=Rd.mono (T:=fun k=>¬ U k∧k<(wr.alloc (.cells #[.int .i64 a.kind,.int .i64 a.cl,.int .i64 a.n,.string a.text] 78)).heap.size) (RdE.ext HL.o xa) fun k hk hl=>⟨hk,hl⟩
  have h9:=Rd.chg h8 hC0 (fun k hk=>hk.1);have HL7:=Y8 (Rd.mono (T:=fun k=>¬ U' k) h9 fun k hk _ hu=>(hu' k hu).elim hk.1 fun h=>by have:=hk.2;omega);clear h8 h9;have Hml':=Y8 hml';have Ht':=Y8 ht';have Hn':=Y8 hn';clear hD hL hC hC0 hml' ht' hn' hu' a0 a1 a2 a3 xa;go_wp2_with fail;go_roundw;case rel=>exact⟨i+1,d',U',by omega,by go_num,D7.o,⟨L7.o.lin,by have:=L7.o.load;have:=Hld.o;omega⟩,by rw[Hml'.o];exact Hml.o,by have:=Hn'.o;have:=Hn0.o;omega,by rw[Ht'.o,Ht0.o],X7.o,C7.o,HL7.o⟩
  (simp[intOf];omega)
 have hd_i:=GEl i m;obtain rfl:i=m:=by omega
 go_wp2_with fail;refine(Zu2 T G.o.few G.o b B 20000 (Ym _) d _ D1.o L1.o (by have:=Hn0.o;omega) (by have:=Ht0.o;omega) (by rw[Hml.o];exact hn4) (by have h1:=Zi2 D1.o;have h2:=Hld.o;rw[Hml.o]at h1;omega) (by have:=Hld.o;omega)).mono ?_;rintro e w6 ⟨z,e',U',rfl,hD,⟨hL,hI,_,hn9⟩,hC,_⟩;have ED:=Y8 (Zho hL hI (by omega) hD.lo hD.n16);have D6:=Y8 hD;have X6:=Y8 (X5.o.chg_new hC (fun q hq=>Zgo HwB.o hq));have C6:=Y8 (C5.o.chg hC (by omega));have N6:=Y8 hn9;obtain⟨Ao,Co,hov,_,_⟩:=hD.own.shape;have c3:w6.cell? ⟨b,3,none⟩=some (.slice Ao e'.ops.length Co):=by rw[← hov];exact hD.c 3 rfl
 have O6:=Y8 hD.opsAt;rw[hov]at O6;obtain⟨no,hno⟩:=gnX (e'.ops.length);rw[hno]at c3 O6;clear hD hL hI hC hn9 D1 L1 Hml Hn0 Ht0 X5 C5 HL Hld hov hno;obtain⟨os,hos⟩:=gnX (e'.ops.map Subtype.val);rw[hos]at O6 ED;obtain⟨es,hes⟩:=gnX (Uw os (Us os));obtain⟨⟨tk,hrec,htk⟩,hchk,hks,hlen,h16,hol⟩:=ED.o;rw[hes]at hrec hchk hks hlen;have Hrec:=Y8 hrec;have Htk:=Y8 htk;have Hchk:=Y8 hchk;have Hks:=Y8 hks;have Hes:=Y8 hes;have H16:=Y8 h16;clear hrec htk hchk hks h16 hes hos ED;go_wp2_with fail;refine(Zs4 _ b Ao no Co c3).mono ?_;rintro e w7 ⟨rfl,rfl⟩;clear c3;go_wp2_with fail;refine(Zys _ _ _ O6.o hol H16.o).mono ?_;rintro e w8 ⟨v8,ps,rfl,hents,hps,hx8⟩;rw[Hes.o]at hps;have D8:=Y8 (D6.o.ext hx8);have X8:=Y8 (X6.o.trans hx8);have C8:=Y8 (C6.o.ext hx8);obtain⟨A8,K8,rfl⟩:=hents.shape;obtain⟨ne,hne⟩:=gnX (ps.length);have hle:es.length=ne:=by rw[← hps,Zq,hne]
 have E8:=Y8 hents;have Hps:=Y8 hps;have Hne:=Y8 hne;have Hle:=Y8 hle;rw[hne];have hn96:ne≤4096:=by omega
 clear hents hps hne hle hx8 O6 D6 X6 C6 H16 Hes hlen hol os;go_wp2_with fail;go_loopw [13,54] (fun j o wr=>∃ (i:Nat),i≤ne∧j=.string (bs (Wj (es.take i)))∧o=.int .i64 (i:Int)∧Tj (es.take i)∧Ext w8 wr) (fun _ o _=>ne-(intOf o).toNat);case atStart=>exact⟨0,by omega,(by rw[Z9,Wj];rfl),rfl,fun e he=>(by simp at he),Yk _⟩
 obtain⟨i,hi,rfl,rfl,hok,hx⟩:=hrel;rename World=>wr
 have Xr:=Y8 hx;have Hok:=Y8 hok;clear hx hok;obtain⟨jb,hjb⟩:=gnX (bs (Wj (es.take i)));have hjl:jb.size≤140737488351232:=by
  have:=Ix Hok.o;have h2:(es.take i).length≤i:=by rw[Zp];omega
  have h3:4200*(es.take i).length≤4200*4096:=Nat.mul_le_mul_left _ (by omega);rw[← hjb,Js];omega
 have Hjb:=Y8 hjb;have Hjd:=Y8 (show jb.data.toList=Wj (es.take i) by rw[← hjb];rfl);rw[hjb];clear hjb;by_cases hlt:i<ne
 ·obtain⟨hd_i,i0_i,i1_i⟩:=LTl i ne;obtain⟨g,o,c',hv,p1,p2,_,b1,hcell⟩:=(E8.o.ext Xr.o).get (j:=i) (by rw[Hne.o];exact hlt);rw[Hne.o]at hv p1;obtain⟨rfl,-,rfl⟩:=slcX hv;clear hv;obtain⟨⟨e,u⟩,hae⟩:∃ a,ps[i]?=some a:=⟨ps[i]'(by rw[Hne.o];exact hlt),Zz _⟩;have hee:es[i]?=some e:=by rw[← Hps.o,Zn,hae];rfl
  have hce:=Hchk.o e (Zy hee);have hbl:=Zmt hce (Hks.o e (Zy hee));have htn:=take_at hee;obtain⟨x1,x2,x3,x4,x5,xn⟩:=hcell _ hae;simp only at x1 x2 x3 x4 x5 xn;obtain⟨A2,c2,rfl⟩:=xn.shape;unfold maxLen at p2;have hx0:Ext wr (wr.alloc (.cells #[.int .i64 e.cl,.int .i64 e.op,.int .i64 e.ttl,.int .i64 e.tick,.slice A2 e.names.length c2] 83)):=(Yk wr).alloc _;have Hn:=Y8 (xn.ext hx0);have XW:=Y8 (Xr.o.trans hx0);have Hce:=Y8 hce;have Htn:=Y8 htn;have hbk:=Xm.new wr #[.int .i64 e.cl,.int .i64 e.op,.int .i64 e.ttl,.int .i64 e.tick,.slice A2 e.names.length c2] 83;have Hbk:=Y8 hbk;clear hcell hae xn hx0 hee hce htn hbk;go_wp2_with fail;refine(P0 jb e _ hjl _ Hn.o hbl).mono ?_;rintro x w2 ⟨rfl,hx2⟩;have K2:=Y8 (Hbk.o.ext hx2);have Hn2:=Y8 (Hn.o.ext hx2);have X2:=Y8 (XW.o.trans hx2);have happ:=Zjr (l:=es.take i) (e:=e) Hok.o (by rw[Zp];omega) Hce.o;rw[Hjd.o];clear hx2 Hn Hbk XW x1 x2 x3 x4 x5;rcases happ with ha | ⟨he,ha⟩
  ·rw[ha];clear ha;obtain⟨gb,hgb⟩:=gnX (wr.heap.size);rw[hgb]at K2;rw[hgb];clear hgb;go_wp2_with fail;refine(Zsi _).mono ?_;rintro x w4 ⟨rfl,hx4⟩;have Hn4:=Y8 (Hn2.o.ext hx4);have X4:=Y8 (X2.o.trans hx4);have K4:=Y8 (K2.o.ext hx4);have c0:=K4.o.at_ 0 (by simp);have c1:=K4.o.at_ 1 (by simp);have c2:=K4.o.at_ 2 (by simp);have c3:=K4.o.at_ 3 (by simp);have c4:=K4.o.at_ 4 (by simp);simp only[Zx,Zw]at c0 c1 c2 c3 c4;clear hx4 Hn2 X2 K2;go_wp2_with fail;refine(Zxu e _ _ Hn4.o).mono ?_;rintro x w5 ⟨rfl,hx5⟩;rw[Hce.o];have X5:=Y8 ((X8.o.trans X4.o).trans hx5);clear hx5 c0 c1 c2 c3 c4;go_wp2_with fail;go_ret;exact⟨rfl,X5.o.below⟩
  rw[ha];have Hek:=Y8 (show Tj (es.take (i+1)) from fun x hx=>by
   rw[Htn.o]at hx;rcases Zj.1 hx with q|q
   ·exact Hok.o x q
   rw[Zi.1 q];exact he)
  obtain⟨jc,hjc⟩:=gnX (bs (Wj (es.take i++[e])));rw[hjc];have Hjc:=Y8 hjc;clear ha he hjc K2;go_wp2_with fail;go_roundw;case rel=>exact⟨i+1,by omega,by rw[Htn.o,Hjc.o],by go_num,Hek.o,X2.o⟩
  (simp[intOf];omega)
 have hd_i:=GEl i ne;obtain rfl:i=ne:=by omega
 have htl:es.take i=es:=Zm (by rw[Hle.o];exact Ym _);have hok:=Hok.o;have hjd:=Hjd.o;rw[htl]at hok hjd;have hrd:=Zzy hok (by rw[Hle.o];exact hn96);have Hrd:=Y8 (show(Jv jb.data.toList).1=es by rw[hjd,hrd]);have D9:=Y8 (D8.o.ext Xr.o);have C9:=Y8 (C8.o.ext Xr.o);have X9:=Y8 (X8.o.trans Xr.o);have c0:=C9.o.at_ 0 (by simp);have c1:=C9.o.at_ 1 (by simp);simp only[Zx,Zw]at c0 c1;clear hok hjd hrd htl Hok Hjd Hjb Xr D8 C8 X8 E8 C9;go_wp2_with fail;refine(Zph (n:Int) cp jb hjl _).mono ?_;rintro x v5 ⟨hx5,h|h|h⟩
 ·exfalso;have:=Hc.o;have:=h.1;omega
 ·exfalso;have h2:=h.2.1;rw[Hrd.o,Hrec.o]at h2;cases h2
 obtain⟨_,l,t,kv,rv,hr,rfl,hk5,hr5⟩:=h;rw[Hrd.o,Hrec.o]at hr;simp only[Yc,Zfk]at hr;obtain⟨rfl,rfl⟩:=hr;have D5:=Y8 (D9.o.ext hx5);have X5:=Y8 (X9.o.trans hx5);have HK5:=Y8 hk5;have HR5:=Y8 (show Q4 v5 (fun k=>wr.heap.size≤k) rv (e'.x.rs.map Prod.snd) by
  unfold Q4;rw[Zq];exact hr5)
 clear hx5 hk5 hr5 D9 X9 c0 c1 Hrd Hrec;go_wp2_with fail;refine(Zlm T b B e' _ D5.o N6.o).mono ?_;rintro x v6 ⟨kv2,rv2,lv2,ov2,pv2,rfl,hk6,hr6,hl6,ho6,hp6,hx6⟩;have X6:=Y8 (X5.o.trans hx6);have K5:=Y8 (Rd.ext HK5.o hx6);have Q5:=Y8 (Rd.ext HR5.o hx6);have K6:=Y8 (show Rd v6 (fun k=>v5.heap.size≤k) 1 kv2 e'.x.rs.length ((Dn e'.x.rs).map encStr) by
  rw[Zmp];have h:=hk6;unfold RdE at h;rw[Zq]at h;exact h)
 have Q6:=Y8 (show Q4 v6 (fun k=>v5.heap.size≤k) rv2 (e'.x.rs.map Prod.snd) from hr6);obtain⟨Aa,Ca,hva,_,_⟩:=hk6.shape;obtain⟨Ab,Cb,hvb,_,_⟩:=hr6.shape;obtain⟨Ac,Cc,hvc,_,_⟩:=hl6.shape;obtain⟨Ad,Cd,hvd,_,_⟩:=ho6.shape;obtain⟨Ae,Ce,hve,_,_⟩:=hp6.shape;obtain⟨na,hna⟩:∃ x,(e'.x.rs.map Prod.fst).length=x:=⟨_,rfl⟩;obtain⟨nb,hnb⟩:∃ x,(e'.x.rs.map Prod.snd).length=x:=⟨_,rfl⟩;obtain⟨nc,hnc⟩:∃ x,(e'.x.ks.map Prod.fst).length=x:=⟨_,rfl⟩;obtain⟨nd,hnd⟩:∃ x,(e'.x.ks.map fun p=>p.2.ow).length=x:=⟨_,rfl⟩;obtain⟨nf,hnf⟩:=gnX ((e'.ms.map fun p=>p.2.st).length);rw[hna]at hva;rw[hnb]at hvb;rw[hnc]at hvc;rw[hnd]at hvd;rw[hnf]at hve;clear hx6 hk6 hr6 hl6 ho6 hp6 hna hnb hnc hnd hnf HK5 HR5 X5 D5;subst hva hvb hvc hvd hve;go_upto_region 24 with fail;have SB:=Y8 (Xm.new v6 #[.int .i64 e'.x.clock,.int .i64 e'.x.sum,.slice Aa na Ca,.slice Ab nb Cb,.slice Ac nc Cc,.slice Ad nd Cd,.slice Ae nf Ce] 27);have xa:=(Yk v6).alloc (.cells #[.int .i64 e'.x.clock,.int .i64 e'.x.sum,.slice Aa na Ca,.slice Ab nb Cb,.slice Ac nc Cc,.slice Ad nd Cd,.slice Ae nf Ce] 27);have X7:=Y8 (X6.o.trans xa);have K5':=Y8 (Rd.ext K5.o xa);have Q5':=Y8 (Rd.ext Q5.o xa);have K6':=Y8 (Rd.ext K6.o xa);have Q6':=Y8 (Rd.ext Q6.o xa);obtain⟨sb,hsb⟩:=gnX (v6.heap.size);obtain⟨W7,hW7⟩:=gnX (v6.alloc (.cells #[.int .i64 e'.x.clock,.int .i64 e'.x.sum,.slice Aa na Ca,.slice Ab nb Cb,.slice Ac nc Cc,.slice Ad nd Cd,.slice Ae nf Ce] 27));rw[hsb,hW7]at SB;rw[hW7]at X7 K5' Q5' K6' Q6';rw[hW7,hsb];clear hW7 hsb xa X6 K5 Q5 K6 Q6;go_wp2_with fail;refine(Zsi _).mono ?_;rintro x w4 ⟨rfl,hx4⟩;have S4:=Y8 (SB.o.ext hx4);have X8:=Y8 (X7.o.trans hx4);have K5:=Y8 (Rd.ext K5'.o hx4);have Q5:=Y8 (Rd.ext Q5'.o hx4);have K6:=Y8 (Rd.ext K6'.o hx4);have Q6:=Y8 (Rd.ext Q6'.o hx4);have c2:=S4.o.at_ 2 (by simp);simp only[Zx,Zw]at c2;clear hx4 SB X7 K5' Q5' K6' Q6';go_wp2_with fail;refine(Zln kv _ _ (Dn e'.x.rs) _ _ _ K5.o K6.o).mono ?_;rintro x w9 ⟨rfl,hx9⟩;have S9:=Y8 (S4.o.ext hx9);have X9:=Y8 (X8.o.trans hx9);have Q5':=Y8 (Rd.ext Q5.o hx9);have Q6':=Y8 (Rd.ext Q6.o hx9);have c3:=S9.o.at_ 3 (by simp);simp only[Zx,Zw]at c3;clear hx9 S4 X8 K5 K6 Q5 Q6 c2;go_wp2_with fail;refine(Zpc rv _ (e'.x.rs.map Prod.snd) _ _ _ Q5'.o Q6'.o).mono ?_;rintro x w10 ⟨rfl,hx10⟩;have S10:=Y8 (S9.o.ext hx10);have X10:=Y8 (X9.o.trans hx10);have c0:=S10.o.at_ 0 (by simp);simp only[Zx,Zw]at c0;clear hx10 S9 X9 Q5' Q6' c3;have hd9:=Ye Htk.o;go_wp2_with fail;go_ret;exact⟨rfl,X10.o.below⟩
end journalDesk
