/- Lemmas of this claim. Conditions: as named. -/
import Derived.Test.YtnbclgbicnpmnaaGreatA04
import Derived.Test.YtnbclgbicnpmnaaGreatA09
import Derived.Test.YtnbclgbicnpmnaaGreatA17
import Derived.Test.YtnbclgbicnpmnaaGreatA19
import Derived.Test.YtnbclgbicnpmnaaGreatA29
namespace Go.Proofs.YtnbclgbicnpmnaaGreat
open Go.RowKit Go.Sort
set_option maxHeartbeats 0
set_option maxRecDepth 100000
set_option linter.all false
def Jr(cl:Int)(text:ByteArray):Jv:=⟨cl,1,text,0,0,.slice none 0 0,[],.slice none 0 0,[],⟨0,0,⟨#[]⟩,⟨0,0,⟨#[]⟩,0⟩,0⟩,0⟩
def Zmb(m:Jv):List Value:=[.int .i64 m.cl,.int .i64 m.st,.string m.text,.int .i64 m.op,.int .i64 m.ttl,m.lv,m.rv,.int .i64 m.ans.e,.int .i64 m.ans.at_,.string m.ans.nm,.int .i64 m.ans.rc.st,.int .i64 m.ans.rc.ow,.string m.ans.rc.nm,.int .i64 m.ans.rc.dl,.int .i64 m.ans.tick,.int .i64 m.i]
theorem Zyf(T:Tbl)(m:Jv):machC T m=Qs T++Zmb m:=rfl
theorem Ztz{w:World}{b:Nat}{T:Tbl}{m:Jv}(h:Xs w b (machC T m)):Ja w b T :=
 ⟨h.lt,fun k hk=>by rw[h.at_ k (by show k<28;omega),Zyf,Ze hk]⟩
theorem Zqo{w:World}{S:Nat→Prop}{T:Tbl}{m:Jv}(hT:Xi w S T)(h1:m.lv.oneCell'=true)(h2:m.rv.oneCell'=true):∀ v∈machC T m,v.oneCell'=true:=fun v hv=>by
 rw[Zyf,Zj]at hv;rcases hv with hv|hv
 ·exact Zsd hT v hv
 simp only[Zmb,Zg,Zh,Zkh]at hv;rcases hv with rfl|rfl|rfl|rfl|rfl|rfl|rfl|rfl|rfl|rfl|rfl|rfl|rfl|rfl|rfl|rfl;all_goals first|rfl|exact h1|exact h2
theorem Zuc:(Tryz.prog.info? 163).map (·.size)=some 28:=by kernel_rfl
theorem Zv4{S:Nat→Prop}(T:Tbl)(b:Nat)(m:Jv)(text:ByteArray)(w:World)(h:Xs w b (machC T m))(hT:Xi w S T)(hs:m.st=0) :
 Calls Tryz.prog 114 #[.pointer (some ⟨b,0,none⟩),.string text] w fun e w'=>e=.returned (.int .i64 0)∧Xs w' b (machC T (Jr m.cl text))∧Chg (· = b) w w':=by
 have z13:w.cell? ⟨b,13,none⟩=some (.int .i64 m.st):=h.at_ 13 (by simp[machC]);have z12:w.cell? ⟨b,12,none⟩=some (.int .i64 m.cl):=h.at_ 12 (by simp[machC]);rw[hs]at z13;have m12:=lat z12;have hC:∀ w',(∃ p:Wf,w'=later w p.n p.os)→Ja w' b T:=fun w' ⟨p,e⟩=>by rw[e];exact(Ztz h).ext (⟨_,_,rfl⟩)
 have hone:=all_oneCell_toArray (Zqo (m:=Jr m.cl text) hT rfl rfl);have H:=Ya h;clear h hT hs;go_enter Tryz.func114,Tryz.ntmps114;go_upto_region 3 with fail;clear z12 z13;refine Xm 11 13 (by kernel_rfl) (by omega) (by kernel_rfl) (by kernel_rfl) (by kernel_rfl) ?_;simp only[Z4,Z5,Z6,Z7];repeat(first|((with_reducible refine Xh ?_ ?_ hC ?_);(focus(go_simp;done));rfl)|((with_reducible refine Yw ?_);intro K hK;go_simp;(with_reducible refine hK _ ?_);clear hK K))
 unfold Vr;((with_reducible refine Yw ?_);intro K hK;go_simp;(with_reducible refine hK _ ?_);clear hK K)
 (with_reducible refine Yv ?_)
 intro w9 hy9;have H9:=Ya (H.o.ext hy9);have Y9:=Ya hy9;have hth:=H9.o.there (o:=0) (n:=28) (Yp _);clear hy9 m12 hC;go_wp2_with (refine Zja rfl _ _ _ rfl b 0 (machC T (Jr m.cl text)).toArray rfl rfl hth (by rw[Zuc];rfl) hone ?_);have HZ:=Ya (H9.o.mid (o:=0) (vs:=machC T (Jr m.cl text)) (cs':=machC T (Jr m.cl text)) (Yp _) rfl);have CZ:=Ya (Xo (S:=(· = b)) (b:=b) (.inl rfl) (vs:=machC T (Jr m.cl text)) (o:=0) (Y9.o.chg (· = b)));obtain⟨W,hW⟩:=gnX (w9.setCells b 0 (machC T (Jr m.cl text)));rw[hW]at HZ CZ;rw[show w9.setCells b 0 (machC T (Jr m.cl text)).toArray.toList=W from hW];clear hW hth hone H9 Y9;go_wp2_with fail;go_ret;exact⟨rfl,HZ.o,CZ.o⟩
theorem Mv(l:List Kp)(k:ByteArray)(r:Rc):(Ki l k r).length≤l.length+1:=by
 have:∀ (l:List Kp) d,(Vz k r d l).length≤l.length+1:=by
  intro l
  induction l with
  | nil=>intro d;cases d<;>simp[Vz]
  | cons p l ih =>
   intro d;rw[Vz];split
   ·have:=ih d;simp;omega
   split
   ·have h1:∀ l:List Kp,(Vz k r true l).length≤l.length:=by
     intro l
     induction l with
     | nil=>simp[Vz]
     | cons p l ih2 =>
      rw[Vz];split
      ·simp;omega
      simp;omega
    have:=h1 l;simp;omega
   have:=ih d;simp;omega
 exact this l _
structure Zvd(S:Nat→Prop)(T:Tbl)(mb xb:Nat)(m:Jv)(x:Shr)(w:World)(s:Int)(m':Jv)(x':Shr)(w':World):Prop where
 mach:Wg w' S T mb m'
 mok:MOk m'
 shr:Qn w' S xb x'
 chg:Chg (fun j=>j=mb∨j=xb) w w'
 xok:∀ t,XOk t x→XOk (t+1) x'
 live:m'.st≠0→m.st≠0
 par:m.st=1→s=3∨m'.st=2
def Jo(S:Nat→Prop)(T:Tbl)(mb xb:Nat)(m:Jv)(x:Shr)(w:World)(e:Ending)(w':World):Prop :=
 ∃ (s:Int) (m':Jv) (x':Shr),e=.returned (.int .i64 s)∧Zvd S T mb xb m x w s m' x' w'
structure Uu(S:Nat→Prop)(T:Tbl)(mb xb:Nat)(m:Jv)(x:Shr)(w:World):Prop where
 mach:Wg w S T mb m
 mok:MOk m
 shr:Qn w S xb x
 ne:mb≠xb
 sm:¬ S mb
 sx:¬ S xb
 new:∀ k,w.heap.size≤k→S k
 tbl:Xi w S T
theorem Wg.c{w:World}{S:Nat→Prop}{T:Tbl}{b:Nat}{m:Jv}(h:Wg w S T b m)(j:Nat){v:Value}(hv:(machC T m)[j]?=some v):w.cell? ⟨b,j,none⟩=some v:=by
 rw[h.cells.at_ j (Zr.1 hv).1,hv]
theorem Qn.c{w:World}{S:Nat→Prop}{b:Nat}{x:Shr}(h:Qn w S b x)(j:Nat){v:Value}(hv:(Zmp x)[j]?=some v):w.cell? ⟨b,j,none⟩=some v:=by
 rw[h.cells.at_ j (Zr.1 hv).1,hv]
theorem Wg.ext{w w':World}{S:Nat→Prop}{T:Tbl}{b:Nat}{m:Jv}(h:Wg w S T b m)(x:Ext w w'):Wg w' S T b m:=⟨h.cells.ext x,Rd.ext h.ns x,Rd.ext h.rs x⟩
theorem Qn.ext{w w':World}{S:Nat→Prop}{b:Nat}{x:Shr}(h:Qn w S b x)(e:Ext w w'):Qn w' S b x:=⟨h.cells.ext e,Rd.ext h.ks e,Rd.ext h.rs e⟩
theorem Wg.put{w:World}{S:Nat→Prop}{T:Tbl}{b:Nat}{m m':Jv}(h:Wg w S T b m)(hb:¬ S b){j:Nat}(hj:j<28){v:Value}(e:(machC T m).set j v=machC T m')(e1:m'.lv=m.lv)(e2:m'.ns=m.ns)(e3:m'.rv=m.rv)(e4:m'.rs=m.rs):Wg (w.setCell ⟨b,j,none⟩ v) S T b m' :=
 ⟨e▸h.cells.set (j:=j) hj v,by rw[e1,e2];exact RdE.far (E:=nmE) h.ns hb v,by rw[e3,e4];exact Rd.chg h.rs ((Chg.refl (· = b) w).setCell (p:=⟨b,j,none⟩) (.inl rfl) v) (fun _ hk e=>hb (e▸hk))⟩
theorem Qn.far{w:World}{S:Nat→Prop}{b c j:Nat}{x:Shr}(h:Qn w S b x)(hne:b≠c)(hc:¬ S c)(v:Value):Qn (w.setCell ⟨c,j,none⟩ v) S b x :=
 h.chg (U:=(· = c)) ((Chg.refl (· = c) w).setCell (p:=⟨c,j,none⟩) (.inl rfl) v) hne (fun _ hk e=>hc (e▸hk))
theorem Wg.far{w:World}{S:Nat→Prop}{T:Tbl}{b c j:Nat}{m:Jv}(h:Wg w S T b m)(hne:b≠c)(hc:¬ S c)(v:Value):Wg (w.setCell ⟨c,j,none⟩ v) S T b m :=
 h.chg (U:=(· = c)) ((Chg.refl (· = c) w).setCell (p:=⟨c,j,none⟩) (.inl rfl) v) hne (fun _ hk e=>hc (e▸hk))
theorem Zsj{S:Nat→Prop}(T:Tbl)(mb xb:Nat)(m:Jv)(x:Shr)(w:World)(h:Uu S T mb xb m x w)(hs:m.st=0):Calls Tryz.prog 115 #[.pointer (some ⟨mb,0,none⟩),.pointer (some ⟨xb,0,none⟩)] w (Jo S T mb xb m x w):=by
 have z13:w.cell? ⟨mb,13,none⟩=some (.int .i64 m.st):=h.mach.c 13 rfl;have H:=Ya h;have Hs:=Ya hs;rw[hs]at z13;clear h hs;go_enter Tryz.func115,Tryz.ntmps115;go_wp2_with fail;go_ret;exact⟨0,m,x,rfl,H.o.mach,H.o.mok,H.o.shr,Chg.refl _ _,fun t h=>h.up,fun h=>h,fun h=>by rw[Hs.o]at h;simp at h⟩
theorem Zw6{S:Nat→Prop}(T:Tbl)(mb xb:Nat)(m:Jv)(x:Shr)(w:World)(h:Uu S T mb xb m x w)(hs:m.st=7):Calls Tryz.prog 115 #[.pointer (some ⟨mb,0,none⟩),.pointer (some ⟨xb,0,none⟩)] w (Jo S T mb xb m x w):=by
 have z13:w.cell? ⟨mb,13,none⟩=some (.int .i64 m.st):=h.mach.c 13 rfl;have fz:=h.mach.cells.fz;have H:=Ya h;have Hs:=Ya hs;rw[hs]at z13;clear h hs;go_enter Tryz.func115,Tryz.ntmps115;go_wp2_with fail;go_ret;exact⟨4,{m with st:=0},x,rfl,H.o.mach.put H.o.sm (by omega) rfl rfl rfl rfl rfl,⟨by simp,by simp,H.o.mok.c0,H.o.mok.c1,fun h=>by simp at h,fun h=>by simp at h,fun h=>by simp at h,fun h=>by simp at h,fun h=>by simp at h⟩,
  H.o.shr.far H.o.ne.symm H.o.sm _,(Chg.refl _ _).setCell (.inl (.inl rfl)) _,fun t h=>h.up,fun h=>by simp at h,fun h=>by rw[Hs.o]at h;simp at h⟩
theorem Ko:(Tryz.prog.info? 53).map (·.size)=some 8:=by kernel_rfl
theorem Wg.ans{w:World}{S:Nat→Prop}{T:Tbl}{b:Nat}{m:Jv}(h:Wg w S T b m)(hb:¬ S b)(R:Ad):Wg (w.setCells b 19 (Vy R)) S T b {m with ans:=R} :=
 ⟨h.cells.mid (o:=19) (by show 19+8≤28;omega) rfl,Rd.chg h.ns (Xo (S:=(· = b)) (.inl rfl) (Chg.refl (· = b) w)) (fun _ hk e=>hb (e▸hk)),Rd.chg h.rs (Xo (S:=(· = b)) (.inl rfl) (Chg.refl (· = b) w)) (fun _ hk e=>hb (e▸hk))⟩
theorem Zr9(st op:Int) : -1≤Xg st op∧Xg st op≤1:=by
 unfold Xg;split
 ·split<;>omega
 split
 ·split<;>omega
 omega
theorem Qn.sum{w:World}{S:Nat→Prop}{b:Nat}{x:Shr}(h:Qn w S b x)(hb:¬ S b)(u:Int):Qn (w.setCell ⟨b,3,none⟩ (.int .i64 u)) S b {x with sum:=u} :=
 ⟨h.cells.set (j:=3) (by show 3<6;omega) _,Rd.chg h.ks ((Chg.refl (· = b) w).setCell (p:=⟨b,3,none⟩) (.inl rfl) _) (fun _ hk e=>hb (e▸hk)),Rd.chg h.rs ((Chg.refl (· = b) w).setCell (p:=⟨b,3,none⟩) (.inl rfl) _) (fun _ hk e=>hb (e▸hk))⟩
theorem Zxr{α β:Type}:∀ (a:List α) (b:List β),a.length=b.length→(a.zip b).map Prod.fst=a∧(a.zip b).map Prod.snd=b
 | [],[],_=>⟨rfl,rfl⟩
 | x::a,y::b,h=>by
  obtain⟨h1,h2⟩:=Zxr a b (by simpa using h);exact⟨by simp[h1],by simp[h2]⟩
 | [],_::_,h=>by simp at h
 | _::_,[],h=>by simp at h
theorem Ch(cap op client ttl now count:Int)(ps:List (Nm×Rc)):(We cap op client ttl now count ps).tick=now:=by
 unfold We;split
 ·rfl
 split<;>rfl
theorem N2{S:Nat→Prop}{T:Tbl}{mb xb:Nat}{m:Jv}{x:Shr}{w w':World}{R:Ad}(h:Uu S T mb xb m x w)(hs:m.st=4)(hR:0≤R.tick)(hm:Wg w' S T mb {m with ans:=R,st:=6})(hx:Qn w' S xb x)(c:Chg (fun j=>j=mb∨j=xb) w w'):Zvd S T mb xb m x w 3 {m with ans:=R,st:=6} x w' :=
 ⟨hm,⟨by simp,by simp,h.mok.c0,⟨h.mok.c1.1,h.mok.c1.2.1,hR⟩,fun _ _=>h.mok.n0 (by omega) (by omega),fun h=>by simp at h,fun h=>by simp at h,fun _ h=>by simp at h,fun _ h=>by simp at h⟩,hx,c,fun _ h=>h.up,fun _=>by omega,fun h=>by omega⟩
theorem Zza{S:Nat→Prop}(T:Tbl)(mb xb:Nat)(m:Jv)(x:Shr)(w:World)(t:Nat)(hx:XOk t x)(ht:t≤500000)(h:Uu S T mb xb m x w)(hs:m.st=4):Calls Tryz.prog 115 #[.pointer (some ⟨mb,0,none⟩),.pointer (some ⟨xb,0,none⟩)] w (Jo S T mb xb m x w):=by
 have z13:w.cell? ⟨mb,13,none⟩=some (.int .i64 m.st):=h.mach.c 13 rfl;have m12:=lat (h.mach.c 12 rfl:w.cell? ⟨mb,12,none⟩=some (.int .i64 m.cl));have m15:=lat (h.mach.c 15 rfl:w.cell? ⟨mb,15,none⟩=some (.int .i64 m.op));have m16:=lat (h.mach.c 16 rfl:w.cell? ⟨mb,16,none⟩=some (.int .i64 m.ttl));have m17:=lat (h.mach.c 17 rfl:w.cell? ⟨mb,17,none⟩=some m.lv);have m18:=lat (h.mach.c 18 rfl:w.cell? ⟨mb,18,none⟩=some m.rv);have x0:=lat (h.shr.c 0 rfl:w.cell? ⟨xb,0,none⟩=some (.int .i64 x.cl));have x1:=lat (h.shr.c 1 rfl:w.cell? ⟨xb,1,none⟩=some (.int .i64 x.cp));have x2:=lat (h.shr.c 2 rfl:w.cell? ⟨xb,2,none⟩=some (.int .i64 x.clock));have x3:=lat (h.shr.c 3 rfl:w.cell? ⟨xb,3,none⟩=some (.int .i64 x.sum));rw[hs]at z13;obtain⟨hn1,hn16,_,_⟩:=h.mok.n0 (by omega) (by omega);have hlen:=h.mok.r4 (by omega) (by omega);obtain⟨ps,hps⟩:=gnX (m.ns.zip m.rs);obtain⟨hf,hd⟩:=Zxr m.ns m.rs hlen.symm;rw[hps]at hf hd;have Hl0:=Ya (show 1≤ps.length by rw[← Zq (f:=Prod.fst),hf];exact hn1);have Hl1:=Ya (show ps.length≤16 by rw[← Zq (f:=Prod.fst),hf];exact hn16);have Hn0:=Ya hx.c0;have Hn1:=Ya hx.c1;have Hc0:=Ya (show -10000000≤x.sum by have:=hx.m0;omega);have Hc1:=Ya (show x.sum≤10000000 by have:=hx.m1;omega);have Hns:=Ya (show Wb w S m.lv (ps.map Prod.fst) by rw[hf];exact h.mach.ns);have Hrs:=Ya (show Jy w S m.rv (ps.map Prod.snd) by rw[hd];exact h.mach.rs);obtain⟨nl,hnl⟩:=gnX (m.ns.length);have hrl:m.rs.length=nl:=by omega
 obtain⟨Al,Cl,hlv⟩:=h.mach.ns.shape;obtain⟨_,Ar,Cr,hrv,hrl2,hrl3,_⟩:=id h.mach.rs;rw[hnl]at hlv hn16;rw[hrl]at hrv;rw[hlv]at m17 Hns;rw[hrv]at m18 Hrs;have Hrl:=Ya hrl;have H:=Ya h;have Hs:=Ya hs;have Hlv:=Ya hlv;have Hrv:=Ya hrv;have Hlen:=Ya hlen;clear h hs hps hf hd hnl hrl hlen hlv hrv hx hn1 hrl2 hrl3;go_enter Tryz.func115,Tryz.ntmps115;go_upto_region 10 with fail;clear z13;refine Xm 34 37 (by kernel_rfl) (by omega) (by kernel_rfl) (by kernel_rfl) (by kernel_rfl) ?_;simp only[Z4,Z5,Z6,Z7];repeat((with_reducible refine Yw ?_);intro K hK;go_simp;first|((with_reducible refine hK _ ?_);clear hK K)|(apply Exists.intro;refine⟨fun _=>?_,hK _ ?_⟩;(go_at_call 72;exact Y8 (Ow _ _ _ _ _ _ _ _ _ ps _ Hl0.o Hl1.o Hn0.o Hn1.o Hc0.o Hc1.o (Rd.ext Hns.o (⟨_,_,rfl⟩)) (Rd.ext Hrs.o (⟨_,_,rfl⟩))));clear hK K))
 (with_reducible refine Yv ?_)
 intro w9 hy9;obtain⟨R,hR⟩:=gnX (We x.cp m.op m.cl m.ttl x.clock x.sum ps);have HRt:=Ya (show 0≤R.tick by rw[← hR,Ch];exact Hn0.o);rw[hR];have hth:=(H.o.mach.cells.ext hy9).there (o:=19) (n:=8) (by show 19+8≤28;omega);have hone:(Vy R).toArray.all (·.oneCell')=true:=by simp[Vy,Value.oneCell']
 go_upto_region 11 with(refine Zja rfl _ _ _ rfl mb 19 (Vy R).toArray rfl rfl hth (by rw[Ko];rfl) hone ?_);have HM:=Ya ((H.o.mach.ext hy9).ans H.o.sm R);have HX:=Ya ((H.o.shr.ext hy9).chg (Xo (S:=(· = mb)) (b:=mb) (.inl rfl) (vs:=Vy R) (o:=19) (Chg.refl _ w9)) H.o.ne.symm (fun _ hk e=>H.o.sm (e▸hk)));have CC:=Ya (Xo (S:=(fun j=>j=mb∨j=xb)) (b:=mb) (.inl (.inl rfl)) (vs:=Vy R) (o:=19) (hy9.chg _));obtain⟨W,hW⟩:=gnX (w9.setCells mb 19 (Vy R));rw[hW]at HM HX CC;rw[show w9.setCells mb 19 (Vy R).toArray.toList=W from hW];clear hW hth hone hy9 m12 m15 m16 m17 m18 x0 x1 x2 x3 hR;have c13:W.cell? ⟨mb,13,none⟩=some (.int .i64 m.st):=HM.o.c 13 rfl;have c19:W.cell? ⟨mb,19,none⟩=some (.int .i64 R.e):=HM.o.c 19 rfl;have c15:W.cell? ⟨mb,15,none⟩=some (.int .i64 m.op):=HM.o.c 15 rfl;have c18:W.cell? ⟨mb,18,none⟩=some (.slice Ar nl Cr):=by rw[← Hrv.o];exact HM.o.c 18 rfl
 have fz:=HM.o.cells.fz;have H6:=Ya (HM.o.put (m':={m with ans:=R,st:=6}) H.o.sm (j:=13) (by omega) (v:=.int .i64 6) rfl rfl rfl rfl rfl);have X6:=Ya (HX.o.far (j:=13) H.o.ne.symm H.o.sm (.int .i64 6));have C6:=Ya (CC.o.setCell (p:=⟨mb,13,none⟩) (.inl (.inl rfl)) (.int .i64 6));cases e1:(R.e==0)
 ·go_wp2_with fail;go_ret;exact⟨3,{m with ans:=R,st:=6},x,rfl,N2 H.o Hs.o HRt.o H6.o X6.o C6.o⟩
 cases e2:(m.op==7)
 rotate_left
 ·go_wp2_with fail;go_ret;exact⟨3,{m with ans:=R,st:=6},x,rfl,N2 H.o Hs.o HRt.o H6.o X6.o C6.o⟩
 have H5:=Ya (H6.o.put (m':={m with ans:=R,st:=5}) H.o.sm (j:=13) (by omega) (v:=.int .i64 5) rfl rfl rfl rfl rfl);have X5:=Ya (X6.o.far (j:=13) H.o.ne.symm H.o.sm (.int .i64 5));have C5:=Ya (C6.o.setCell (p:=⟨mb,13,none⟩) (.inl (.inl rfl)) (.int .i64 5));clear H6 X6 C6;go_wp2_with fail;obtain⟨W5,hW5⟩:∃ W',(W.setCell ⟨mb,13,none⟩ (.int .i64 6)).setCell ⟨mb,13,none⟩ (.int .i64 5)=W':=⟨_,rfl⟩;rw[hW5]at H5 X5 C5;try rw[hW5]
 clear hW5 c13 c19 c15 c18 fz e1 e2 HM HX CC;go_loopw [86] (fun o wr=>∃ (j:Nat) (u:Int),j≤nl∧o=.int .i64 (j:Int)∧Wg wr S T mb {m with ans:=R,st:=5}∧Qn wr S xb {x with sum:=u}∧-(j:Int)≤u-x.sum∧u-x.sum≤j∧Chg (fun k=>k=mb∨k=xb) w wr) (fun o _=>nl-(intOf o).toNat);case atStart=>exact⟨0,x.sum,by omega,rfl,H5.o,X5.o,by omega,by omega,C5.o⟩
 rename World=>wr
 obtain⟨j,u,hj,rfl,hM,hX,hu1,hu2,hC⟩:=hrel;by_cases hjn:j<nl
 ·obtain⟨hd_j,i0_j,i1_j⟩:=LTl j nl (by omega);obtain⟨r,hr⟩:∃ r,m.rs[j]?=some r:=⟨m.rs[j]'(by rw[Hrl.o];exact hjn),Zz _⟩;obtain⟨g,o,c,hv,_,_,hg,r0,r1,r2,r3⟩:=V7 hM.rs hr;replace hv:m.rv=.slice (some ⟨g,o,none⟩) m.rs.length c:=hv;rw[Hrv.o,Hrl.o]at hv;simp only[Yg,Zl2]at hv;obtain⟨rfl,rfl⟩:=hv;obtain⟨rst,row,rnm,rdl⟩:=r;simp only at r0 r1 r2 r3;go_upto_region 17 with fail;have hxa:=(Yn wr).alloc (.cells #[.int .i64 rst,.int .i64 row,.string rnm,.int .i64 rdl] 51);have ha:=Xs.new wr #[.int .i64 rst,.int .i64 row,.string rnm,.int .i64 rdl] 51;obtain⟨W1,hW1⟩:=gnX (wr.alloc (.cells #[.int .i64 rst,.int .i64 row,.string rnm,.int .i64 rdl] 51));obtain⟨ab,hab⟩:=gnX (wr.heap.size);rw[hW1]at hxa ha;rw[hab]at ha;rw[hW1,hab];have k0:=lat (ha.at_ 0 (by simp));have k1:=lat (ha.at_ 1 (by simp));have k2:=lat (ha.at_ 2 (by simp));have k3:=lat (ha.at_ 3 (by simp));have M1:=Ya (hM.ext hxa);have X1:=Ya (hX.ext hxa);have C1:=Ya (hC.trans (hxa.chg _));have x3:=lat (X1.o.c 3 rfl:W1.cell? ⟨xb,3,none⟩=some (.int .i64 u));have m15:=lat (M1.o.c 15 rfl:W1.cell? ⟨mb,15,none⟩=some (.int .i64 m.op));obtain⟨b1,b2⟩:=Zr9 rst m.op;have h0:=Hc0.o;have h1:=Hc1.o;obtain⟨U,hU⟩:=gnX (u+Xg rst m.op);have rU:IntKind.i64.wrap (u+Xg rst m.op)=U:=by rw[Yr _ (by omega)];exact hU
  have HU1:=Ya (show -((j+1:Nat):Int)≤U-x.sum by omega);have HU2:=Ya (show U-x.sum≤((j+1:Nat):Int) by omega);clear hM hX hC hxa ha hW1 hab r0 r1 r2 r3 hr hg hU b1 b2 h0 h1 hu1 hu2;refine Xm 11 14 (by kernel_rfl) (by omega) (by kernel_rfl) (by kernel_rfl) (by kernel_rfl) ?_;simp only[Z4,Z5,Z6,Z7];repeat((with_reducible refine Yw ?_);intro K hK;go_simp;first|((with_reducible refine hK _ ?_);clear hK K)|(apply Exists.intro;refine⟨fun _=>?_,hK _ ?_⟩;(go_at_call 103;exact Y8 (Oj _ _ _ _ _ _));clear hK K))
  (with_reducible refine Yv ?_)
  intro w2 hy2;have X2:=Ya (X1.o.ext hy2);have c3:w2.cell? ⟨xb,3,none⟩=some (.int .i64 u):=X2.o.c 3 rfl;have fz:=X2.o.cells.fz;have M3:=Ya ((M1.o.ext hy2).far H.o.ne H.o.sx (j:=3) (.int .i64 U));have X3:=Ya (X2.o.sum H.o.sx U);have C3:=Ya ((C1.o.trans (hy2.chg _)).setCell (p:=⟨xb,3,none⟩) (.inl (.inr rfl)) (.int .i64 U));clear hy2 k0 k1 k2 k3 x3 m15 rU X1 M1 C1 X2;go_wp2_with fail;go_roundw;case rel=>exact⟨j+1,by omega,by go_num,M3.o,U,X3.o,HU1.o,HU2.o,C3.o⟩
  (simp[intOf];omega)
 have hd_j:=GEl j nl (by omega);obtain rfl:j=nl:=by omega
 have HM:=Ya hM;have HX:=Ya hX;have HC:=Ya hC;clear hM hX hC;go_wp2_with fail;go_ret;exact⟨3,{m with ans:=R,st:=5},{x with sum:=u},rfl,HM.o,⟨by simp,by simp,H.o.mok.c0,⟨H.o.mok.c1.1,H.o.mok.c1.2.1,HRt.o⟩,fun _ _=>H.o.mok.n0 (by rw[Hs.o];omega) (by rw[Hs.o];omega),fun h=>by simp at h,fun h=>by simp at h,fun _ _=>Hlen.o,fun _ h=>by simp at h⟩,
  HX.o,HC.o,fun t h=>⟨h.c0,h.c1,by have:=h.m0;simp only;omega,by have:=h.m1;simp only;omega,by have:=h.k;simp only;omega,by have:=h.r;simp only;omega⟩,fun _=>by rw[Hs.o];omega,fun h=>by rw[Hs.o]at h;omega⟩
def Zrz(cl cp:Int):Shr:=⟨cl,cp,0,0,.slice none 0 0,[],.slice none 0 0,[]⟩
theorem Pa(cl cp:Int)(hc:V5 cl cp=0)(w:World):Calls Tryz.prog 76 #[.agg #[.int .i64 cl,.int .i64 cp]] w fun e w'=>∃ b,e=.returned (.tuple #[.pointer (some ⟨b,0,none⟩),.int .i64 0])∧Xs w' b (Zmp (Zrz cl cp))∧w.heap.size≤b∧Ext w w':=by
 have Hc:=Ya hc;clear hc;go_enter Tryz.func76,Tryz.ntmps76;go_wp2_with fail;refine(Qe cl cp _).mono ?_;rintro x w1 ⟨rfl,hx1⟩;rw[Hc.o];have k0:w1.cell? ⟨w.heap.size,0,none⟩=some (.int .i64 cl):=(hx1.cell (by simp)).trans (by go_simp);have k1:w1.cell? ⟨w.heap.size,1,none⟩=some (.int .i64 cp):=(hx1.cell (by simp)).trans (by go_simp);have Hx1:=Ya (((Yn w).alloc _).trans hx1);clear hx1;go_wp2_with fail;go_ret2;exact⟨w1.heap.size,rfl,Xs.new w1 _ _,Hx1.o.size,Hx1.o.alloc _⟩
def Rg(cl:Int):Jv:=⟨cl,0,⟨#[]⟩,0,0,.slice none 0 0,[],.slice none 0 0,[],⟨0,0,⟨#[]⟩,⟨0,0,⟨#[]⟩,0⟩,0⟩,0⟩
theorem Zzt{S:Nat→Prop}(T:Tbl)(hg:Af T)(k:Nat)(hk:k<64)(w:World)(h:Xi w S T):Calls Tryz.prog 77 #[Vr T,.int .i64 (k:Int)] w fun e w'=>∃ b,e=.returned (.tuple #[.pointer (some ⟨b,0,none⟩),.int .i64 0])∧Xs w' b (machC T (Rg k))∧w.heap.size≤b∧Ext w w':=by
 have G:=Ya hg;clear hg;have X0:=Ya ((Yn w).alloc (Wx T));have H:=Ya (h.up X0.o);have Hb0:=Ya (Xn w T);clear h;have q1:decide ((k:Int)<0)=false:=Yi (by omega);have q2:decide ((64:Int)≤(k:Int))=false:=Yi (by omega);go_enter Tryz.func77,Tryz.ntmps77;go_wp2_with (first|(refine Xx rfl ?_)|(refine Y4 Hb0.o rfl ?_));refine(Dy T G.o _ H.o).mono ?_;rintro e w1 ⟨rfl,hx1⟩;have Hx1:=Ya hx1;clear hx1;go_wp2_with (refine Y4 (Hb0.o.ext Hx1.o) rfl ?_;unfold Vr);go_ret2;exact⟨w1.heap.size,rfl,Xs.new w1 _ _,(X0.o.trans Hx1.o).size,(X0.o.trans Hx1.o).alloc _⟩
end Go.Proofs.YtnbclgbicnpmnaaGreat
