/- Lemmas of this claim: Ta, Tb, Tc, Td, Te, Calls, Kw, Kx, Ku, Ks. Conditions: as named. -/
import Derived.WalkMore
import Derived.Test.YtnbclgbicnpmnaaGreatA18
namespace Go.Proofs.YtnbclgbicnpmnaaGreat
open Go.RowKit Go.Sort Tryz
set_option maxHeartbeats 0
set_option maxRecDepth 100000
set_option linter.all false
theorem Mn(b:Nat)(w:World):Calls prog 167 #[.int .u8 (b:Int)] w (Ql w):=by
 go_enter func167,ntmps167;go_wp2_with fail;all_goals
  go_ret;exact⟨_,rfl,Yl _⟩
def Zuq(N:Nat)(w:World)(e:Ending)(w':World):Prop:=∃ s:ByteArray,e=.returned (.string s)∧s.size≤N∧Ext w w'
def Id(b:Nat):Int:=if 48≤b∧b≤57 then(b:Int)-48 else if 65≤b∧b≤70 then(b:Int)-55 else -1
theorem Ztr(b:Nat) : -1≤Id b∧Id b≤15:=by unfold Id;split<;>(try split)<;>omega
theorem Rz(b:Nat)(hb:b≤255)(w:World):Calls prog 198 #[.int .u8 (b:Int)] w fun e w'=>e=.returned (.int .i64 (Id b))∧w=w':=by
 by_cases h1:48≤b
 ·have d1:decide ((48:Int)≤(b:Int))=true:=Yf;by_cases h2:b≤57
  ·have d2:decide ((b:Int)≤57)=true:=Yf;have e:Id b=(b:Int)-48:=by unfold Id;rw[Zjx ⟨h1,h2⟩]
   rw[e];have r1:IntKind.u8.wrap ((b:Int)-48)=(b:Int)-48:=Zi9 _ (by omega);have r2:IntKind.i64.wrap ((b:Int)-48)=(b:Int)-48:=Yp _ (by omega);go_enter func198,ntmps198;go_wp2_with fail;go_ret;exact⟨rfl,rfl⟩
  have d2:decide ((b:Int)≤57)=false:=Yg;by_cases h3:65≤b
  ·have d3:decide ((65:Int)≤(b:Int))=true:=Yf;by_cases h4:b≤70
   ·have d4:decide ((b:Int)≤70)=true:=Yf;have e:Id b=(b:Int)-55:=by unfold Id;rw[Zk9 (by omega),Zjx ⟨h3,h4⟩]
    rw[e];obtain⟨c,hc⟩:∃ c:Int,(b:Int)-65=c:=⟨_,rfl⟩;have r1:IntKind.u8.wrap ((b:Int)-65)=c:=by rw[Zi9 _ (by omega)];exact hc
    have r2:IntKind.i64.wrap c=c:=Yp _ (by omega);have r3:IntKind.i64.wrap (c+10)=(b:Int)-55:=by rw[Yp _ (by omega)];omega
    clear hc;go_enter func198,ntmps198;go_wp2_with fail;go_ret;exact⟨rfl,rfl⟩
   have d4:decide ((b:Int)≤70)=false:=Yg;have e:Id b = -1:=by unfold Id;rw[Zk9 (by omega),Zk9 (by omega)]
   rw[e];go_enter func198,ntmps198;go_wp2_with fail;go_ret;exact⟨rfl,rfl⟩
  have d3:decide ((65:Int)≤(b:Int))=false:=Yg;have e:Id b = -1:=by unfold Id;rw[Zk9 (by omega),Zk9 (by omega)]
  rw[e];go_enter func198,ntmps198;go_wp2_with fail;go_ret;exact⟨rfl,rfl⟩
 have d1:decide ((48:Int)≤(b:Int))=false:=Yg;have d3:decide ((65:Int)≤(b:Int))=false:=Yg;have e:Id b = -1:=by unfold Id;rw[Zk9 (by omega),Zk9 (by omega)]
 rw[e];go_enter func198,ntmps198;go_wp2_with fail;go_ret;exact⟨rfl,rfl⟩
theorem Zu2(n:Nat)(h:n≤1073741824)(w:World):Calls prog 130 #[.int .i64 (n:Int)] w (Zuq 1073741826 w):=by
 have d0:decide ((0:Int)≤(n:Int))=true:=Yf;by_cases hn:n<10
 ·have d1:decide ((n:Int)<10)=true:=Yf;obtain⟨m,hm⟩:=gnX (n+1);have r1:IntKind.i64.wrap ((n:Int)+1)=(m:Int):=by rw[Yp _ (by omega)];omega
  have s0:(0:Int)≤(n:Int):=by omega
  have s1:(n:Int)≤(m:Int):=by omega
  have s2:(m:Int)≤10:=by omega
  go_enter func130,ntmps130;go_wp2_with fail;go_ret;exact⟨_,rfl,by rw[Ziw];omega,Yl _⟩
 have d1:decide ((n:Int)<10)=false:=Yg;have d2:decide ((n:Int)<0)=false:=Yg;go_enter func130,ntmps130;go_wp2_with fail;go_loopw [0,3] (fun v s wr=>∃ (m:Nat) (u:ByteArray),v=.int .i64 (m:Int)∧u.size+m≤n∧s=.string u∧Ext w wr) (fun v _ _=>(intOf v).toNat);case atStart=>exact⟨n,⟨#[]⟩,rfl,by show 0+n≤n;omega,rfl,Yl _⟩
 obtain⟨m,u,rfl,hu,rfl,hx⟩:=hrel;have Hx:=Y4 hx;clear hx;by_cases h0:m=0
 ·subst h0;have hus:¬ 9223372036854775807<0+u.size:=by omega
  have hus2:¬ 9223372036854775807<u.size:=by omega
  go_wp2_with fail;go_ret;exact⟨_,rfl,by rw[Ym];show 0+u.size≤_;omega,Hx.o⟩
 have e1:(!((m:Int)==0))=true:=by simp[h0]
 have e2:((m:Int)!=0)=true:=e1;have e3:((m:Int)==0)=false:=by simp[h0]
 have e4:(m==0)=false:=by simp[h0]
 have e5:¬ (m:Int)=0:=by omega
 have q1:(m:Int).tmod 10=((m%10:Nat):Int):=rfl;have q2:(m:Int).tdiv 10=((m/10:Nat):Int):=rfl;have hmod:m%10<10:=Nat.mod_lt _ (by omega);have hdiv:m/10<m:=Nat.div_lt_self (by omega) (by omega);obtain⟨r,hr⟩:=gnX (m%10);obtain⟨q,hq⟩:=gnX (m/10);rw[hr]at q1 hmod;rw[hq]at q2 hdiv;clear hr hq;obtain⟨p,hp⟩:=gnX (r+1);have r0:decide ((r:Int)<0)=false:=Yg;have r1:IntKind.i64.wrap ((r:Int)+1)=(p:Int):=by rw[Yp _ (by omega)];omega
 have r2:IntKind.i64.wrap (q:Int)=(q:Int):=Yp _ (by omega);have s0:(0:Int)≤(r:Int):=by omega
 have s1:(r:Int)≤(p:Int):=by omega
 have s2:(p:Int)≤10:=by omega
 obtain⟨X,hX⟩:=gnX ((⟨#[48,49,50,51,52,53,54,55,56,57]⟩:ByteArray).extract r p);have hXs:X.size=1:=by rw[← hX,Ziw];show min p 10-r=1;omega
 have hus:¬ 9223372036854775807<X.size+u.size:=by omega
 have HXs:=Y4 hXs;clear hXs;go_wp2_with fail;go_roundw;case rel=>exact⟨q,_,rfl,by have:=HXs.o;rw[Ym];omega,rfl,Hx.o⟩
 (simp[intOf];omega)
def Zng(w:World)(e:Ending)(w':World):Prop:=∃ (z:Int) (b:Bool),e=.returned (.tuple #[.int .i64 z,.bool b])∧Ext w w'
theorem Zzr(s:ByteArray)(m:Int)(hs:s.size≤100000)(w:World):Calls prog 189 #[.string s,.int .i64 m] w (Zng w):=by
 obtain⟨n,hn⟩:=gnX (s.size);have Hn:=Y4 hn;rw[hn]at hs;by_cases h0:n<1
 ·have d0:decide ((n:Int)<1)=true:=Yf;go_enter func189,ntmps189;go_wp2_with fail;all_goals
   go_ret2;exact⟨_,_,rfl,Yl _⟩
 have d0:decide ((n:Int)<1)=false:=Yg;have hlt0:0<s.size:=by rw[hn];omega
 obtain⟨b0,hb0⟩:∃ b:Nat,(s[0]'hlt0).toNat=b:=⟨_,rfl⟩;go_enter func189,ntmps189;go_wp2_with fail;all_goals first
 | (go_ret2
    exact⟨_,_,rfl,Yl _⟩)
 | skip
 all_goals
  go_loopw [7,6] (fun o t wr=>∃ (i:Nat) (z:Int),i≤n∧o=.int .i64 (i:Int)∧t=.int .i64 z∧Ext w wr) (fun o _ _=>n-(intOf o).toNat);case atStart=>exact⟨0,0,by omega,rfl,rfl,Yl _⟩
  obtain⟨i,z,hi,rfl,rfl,hx⟩:=hrel;by_cases hlt:i<n
  ·obtain⟨hd_i,i0_i,i1_i⟩:=LTl i n;have hlt':i<s.size:=by rw[Hn.o];exact hlt
   obtain⟨b,hb⟩:∃ b:Nat,(s[i]'hlt').toNat=b:=⟨_,rfl⟩;go_wp2_with fail;all_goals first
   | (go_roundw
      case rel=>exact⟨i+1,_,by omega,by go_num,rfl,hx⟩
      (simp[intOf];omega))
   | (go_ret2
      exact⟨_,_,rfl,hx⟩)
  have hd_i:=GEl i n;go_wp2_with fail;go_ret2;exact⟨_,_,rfl,hx⟩
theorem Mj(s:ByteArray)(hs:s.size≤100000)(w:World):Calls prog 131 #[.string s] w (Zuq 300002 w):=by
 obtain⟨n,hn⟩:=gnX (s.size);have Hn:=Y4 hn;rw[hn]at hs;cases h0:(s.toList==[])
 rotate_left
 ·have h1:s.toList.isEmpty=true:=by simpa using h0
  have h2:s.toList=[]:=by simpa using h0
  go_enter func131,ntmps131;go_wp2_with fail;go_ret;exact⟨_,rfl,by show 2≤300002;omega,Yl _⟩
 have h1:s.toList.isEmpty=false:=by simpa using h0
 have h2:¬ s.toList=[]:=by simpa using h0
 go_enter func131,ntmps131;go_wp2_with fail;go_loopw [4,3] (fun o t wr=>∃ (i:Nat) (u:ByteArray),i≤n∧o=.int .i64 (i:Int)∧t=.string u∧u.size≤3*i∧Ext w wr) (fun o _ _=>n-(intOf o).toNat);case atStart=>exact⟨0,⟨#[]⟩,by omega,rfl,rfl,by show 0≤_;omega,Yl _⟩
 obtain⟨i,u,hi,rfl,rfl,hu,hx⟩:=hrel;by_cases hlt:i<n
 ·obtain⟨hd_i,i0_i,i1_i⟩:=LTl i n;have hlt':i<s.size:=by rw[Hn.o];exact hlt
  obtain⟨b,hb⟩:∃ b:Nat,(s[i]'hlt').toNat=b:=⟨_,rfl⟩;have hb2:b≤255:=by rw[← hb];have:=(s[i]'hlt').toNat_lt;omega
  go_wp2_with fail;refine(Mn b _).mono ?_;rintro e w1 ⟨pl,rfl,hx1⟩;cases pl with
  | true =>
   obtain⟨k,hk⟩:=gnX (i+1);have r1:IntKind.i64.wrap ((i:Int)+1)=(k:Int):=by rw[Yp _ (by omega)];omega
   have s1:(i:Int)≤(k:Int):=by omega
   have s2:(k:Int)≤(s.size:Int):=by rw[Hn.o];omega
   have s3:(k:Int)≤(n:Int):=by omega
   obtain⟨X,hX⟩:=gnX (s.extract i k);have hXs:X.size≤1:=by rw[← hX,Ziw];omega
   have hus:¬ 9223372036854775807<u.size+X.size:=by omega
   go_wp2_with fail;go_roundw;case rel=>exact⟨i+1,_,by omega,by rw[hk],rfl,by rw[Ym];omega,hx.trans hx1⟩
   (simp[intOf];omega)
  | false =>
   have q1:(b:Int).tdiv 16=((b/16:Nat):Int):=rfl;have q2:(b:Int).tmod 16=((b%16:Nat):Int):=rfl;have hdv:b/16<16:=by omega
   have hmd:b%16<16:=by omega
   obtain⟨p,hp⟩:=gnX (b/16);obtain⟨q,hq⟩:=gnX (b%16);rw[hp]at q1 hdv;rw[hq]at q2 hmd;clear hp hq;obtain⟨p1,hp1⟩:=gnX (p+1);obtain⟨z1,hz1⟩:=gnX (q+1);have r0:IntKind.u8.wrap (p:Int)=(p:Int):=Zi9 _ (by omega);have r1:IntKind.u8.wrap ((p:Int)+1)=(p1:Int):=by rw[Zi9 _ (by omega)];omega
   have r2:IntKind.u8.wrap ((q:Int)+1)=(z1:Int):=by rw[Zi9 _ (by omega)];omega
   have s0:(0:Int)≤(p:Int):=by omega
   have s1:(p:Int)≤(p1:Int):=by omega
   have s2:(p1:Int)≤16:=by omega
   have s3:(0:Int)≤(q:Int):=by omega
   have s4:(q:Int)≤(z1:Int):=by omega
   have s5:(z1:Int)≤16:=by omega
   obtain⟨X,hX⟩:=gnX ((⟨#[48,49,50,51,52,53,54,55,56,57,65,66,67,68,69,70]⟩:ByteArray).extract p p1);obtain⟨Y,hY⟩:=gnX ((⟨#[48,49,50,51,52,53,54,55,56,57,65,66,67,68,69,70]⟩:ByteArray).extract q z1);have hXs:X.size=1:=by rw[← hX,Ziw];show min p1 16-p=1;omega
   have hYs:Y.size=1:=by rw[← hY,Ziw];show min z1 16-q=1;omega
   obtain⟨Z,hZ⟩:=gnX ((⟨#[37]⟩:ByteArray)++X);have hZs:Z.size=2:=by rw[← hZ,Ym,hXs];rfl
   obtain⟨V,hV⟩:∃ Z',Z++Y=Z':=⟨_,rfl⟩;have hVs:V.size=3:=by rw[← hV,Ym,hZs,hYs]
   have t0:¬ 9223372036854775807<1+X.size:=by omega
   have t1:¬ 9223372036854775807<Z.size+Y.size:=by omega
   have t2:¬ 9223372036854775807<u.size+V.size:=by omega
   have HXs:=Y4 hXs;have HYs:=Y4 hYs;have HZs:=Y4 hZs;have HVs:=Y4 hVs;clear hXs hYs hZs hVs hp1 hz1;go_wp2_with fail;go_quiet (fail);go_wp2_with fail;go_roundw;case rel=>exact⟨i+1,_,by omega,by go_num,rfl,by have:=HVs.o;rw[Ym];omega,by first|exact hx.trans hx1|exact(hx.trans hx1).drew|exact(hx.trans hx1).drewN _⟩
   (simp[intOf];omega)
 have hd_i:=GEl i n;go_wp2_with fail;go_ret;exact⟨_,rfl,by omega,hx⟩
def Zn1(n:Nat)(w:World)(e:Ending)(w':World):Prop:=∃ (t:ByteArray) (b:Bool),e=.returned (.tuple #[.string t,.bool b])∧t.size≤n∧Ext w w'
theorem Zz9(s:ByteArray)(hs:s.size≤100000)(w:World):Calls prog 190 #[.string s] w (Zn1 s.size w):=by
 obtain⟨n,hn⟩:=gnX (s.size);have Hn:=Y4 hn;rw[hn]at hs⊢;cases h0:(s.toList==[34,34])
 rotate_left
 ·have h2:s.toList=[34,34]:=by simpa using h0
  go_enter func190,ntmps190;go_wp2_with fail;go_ret2;exact⟨_,_,rfl,by show 0≤n;omega,Yl _⟩
 have h2:¬ s.toList=[34,34]:=by simpa using h0
 go_enter func190,ntmps190;go_wp2_with fail;go_loopw [5,4] (fun o t wr=>∃ (i:Nat) (u:ByteArray),i≤n∧o=.int .i64 (i:Int)∧t=.string u∧u.size≤i∧Ext w wr) (fun o _ _=>n-(intOf o).toNat);case atStart=>exact⟨0,⟨#[]⟩,by omega,rfl,rfl,by show 0≤0;omega,Yl _⟩
 obtain⟨i,u,hi,rfl,rfl,hu,hx⟩:=hrel;by_cases hlt:i<n
 ·obtain⟨hd_i,i0_i,i1_i⟩:=LTl i n;have hlt':i<s.size:=by rw[Hn.o];exact hlt
  obtain⟨b,hb⟩:∃ b:Nat,(s[i]'hlt').toNat=b:=⟨_,rfl⟩;have hb2:b≤255:=by rw[← hb];have:=(s[i]'hlt').toNat_lt;omega
  go_wp2_with fail;refine(Mn b _).mono ?_;rintro e w1 ⟨pl,rfl,hx1⟩;have Hx:=Y4 (hx.trans hx1);clear hx hx1;cases pl with
  | true =>
   obtain⟨k,hk⟩:=gnX (i+1);have r1:IntKind.i64.wrap ((i:Int)+1)=(k:Int):=by rw[Yp _ (by omega)];omega
   have s1:(i:Int)≤(k:Int):=by omega
   have s2:(k:Int)≤(s.size:Int):=by rw[Hn.o];omega
   have s3:(k:Int)≤(n:Int):=by omega
   obtain⟨X,hX⟩:=gnX (s.extract i k);have hXs:X.size≤1:=by rw[← hX,Ziw];omega
   have hus:¬ 9223372036854775807<u.size+X.size:=by omega
   go_wp2_with fail;go_roundw;case rel=>exact⟨i+1,_,by omega,by rw[hk],rfl,by rw[Ym];omega,Hx.o⟩
   (simp[intOf];omega)
  | false =>
   obtain⟨k,hk⟩:=gnX (i+1);obtain⟨k2,hk2⟩:=gnX (i+2);have r1:IntKind.i64.wrap ((i:Int)+1)=(k:Int):=by rw[Yp _ (by omega)];omega
   have r2:IntKind.i64.wrap ((i:Int)+2)=(k2:Int):=by rw[Yp _ (by omega)];omega
   by_cases h37:b=37
   ·have e1:(!((b:Int)==37))=false:=by simp;omega
    have e2:((b:Int)!=37)=false:=e1;have e3:((b:Int)==37)=true:=by simp;omega
    clear h37;by_cases h2:k2<n
    ·have d2:decide ((n:Int)≤(k2:Int))=false:=Yg;have d2n:¬ n≤k2:=by omega
     have i2:(0:Int)≤(k:Int):=by omega
     have i3:(k:Int)<(n:Int):=by omega
     have i4:(0:Int)≤(k2:Int):=by omega
     have i5:(k2:Int)<(n:Int):=by omega
     have hk':k<s.size:=by rw[Hn.o];omega
     have hk2':k2<s.size:=by rw[Hn.o];omega
     obtain⟨b1,hb1⟩:∃ b:Nat,(s[k]'hk').toNat=b:=⟨_,rfl⟩;have hb1b:b1≤255:=by rw[← hb1];have:=(s[k]'hk').toNat_lt;omega
     obtain⟨c1,hc1⟩:∃ b:Nat,(s[k2]'hk2').toNat=b:=⟨_,rfl⟩;have hc1b:c1≤255:=by rw[← hc1];have:=(s[k2]'hk2').toNat_lt;omega
     have B1:=Ztr b1;have B2:=Ztr c1;obtain⟨x1,hx1⟩:=gnX (Id b1);obtain⟨x2,hx2⟩:=gnX (Id c1);rw[hx1]at B1;rw[hx2]at B2;by_cases hn1:x1<0
     ·have f1:decide (x1<0)=true:=Yf hn1;clear hn1 B1 B2;go_wp2_with (go_at_call 198;refine(Rz _ (by assumption) _).mono ?_;rintro e w' ⟨rfl,rfl⟩);go_ret2;exact⟨_,_,rfl,by show 0≤n;omega,Hx.o⟩
     have f1:decide (x1<0)=false:=Yg hn1;by_cases hn2:x2<0
     ·have f2:decide (x2<0)=true:=Yf hn2;clear hn1 hn2 B1 B2;go_wp2_with (go_at_call 198;refine(Rz _ (by assumption) _).mono ?_;rintro e w' ⟨rfl,rfl⟩);go_ret2;exact⟨_,_,rfl,by show 0≤n;omega,Hx.o⟩
     have f2:decide (x2<0)=false:=Yg hn2;obtain⟨y1,rfl⟩:∃ y:Nat,x1=(y:Int):=⟨x1.toNat,by omega⟩;obtain⟨y2,rfl⟩:∃ y:Nat,x2=(y:Int):=⟨x2.toNat,by omega⟩;obtain⟨m1,hm1⟩:=gnX (16*y1);obtain⟨z,hz⟩:=gnX (m1+y2);have t1:IntKind.i64.wrap (16*(y1:Int))=(m1:Int):=by rw[Yp _ (by omega)];omega
     have t2:IntKind.i64.wrap ((m1:Int)+(y2:Int))=(z:Int):=by rw[Yp _ (by omega)];omega
     have t3:IntKind.u8.wrap (z:Int)=(z:Int):=Zi9 _ (by omega);have hz2:z≤255:=by omega
     have hcv:=fun w=>Ez z hz2 w
     obtain⟨bz,hbz⟩:=gnX (bs (u8L [(z:Int)]));have hbs:bz.size=1:=by rw[← hbz];rfl
     rw[hbz]at hcv;have hcv2:∀ w:World,(convert 224 9 (.slice (some ⟨w.heap.size,0,none⟩) 1 1)).run prog (w.alloc (.cells #[.int .u8 (z:Int)] 5)).drew=.ok (.string bz) (w.alloc (.cells #[.int .u8 (z:Int)] 5)).drew:=fun w=>hcv w.drew
     have hus:¬ 9223372036854775807<u.size+bz.size:=by omega
     have Hbs:=Y4 hbs;clear hbz hn1 hn2 hm1 hz hbs B1 B2;go_wp2_with (go_at_call 198;refine(Rz _ (by assumption) _).mono ?_;rintro e w' ⟨rfl,rfl⟩);go_cut [4] from 52 to 68 (fun o wx=>∃ t:ByteArray,o=.string t∧t.size≤u.size+1∧Ext w1 wx)
     case first =>
      rename_i J1 K1 hJ hM;go_region_with (go_at_call 198;refine(Rz _ (by assumption) _).mono ?_;rintro e w' ⟨rfl,rfl⟩);all_goals
       go_simp;refine hM _ _ (hJ _ _ ?_);(repeat apply Exists.intro)
       exact⟨⟨u++bz,rfl,by have h8:=Hbs.o;have h9:=Ym (a:=u) (b:=bz);omega,by first|exact((Yl _).drew).alloc _|exact((Yl _).drewN _).alloc _⟩,rfl⟩
     obtain⟨t,rfl,ht,hxb⟩:=hcut;have r3:IntKind.i64.wrap ((k2:Int)+1)=((k2+1:Nat):Int):=by rw[Yp _ (by omega)];omega
     go_wp2_with fail;go_roundw;case rel=>exact⟨k2+1,_,by omega,by first|rfl|go_num,rfl,by omega,Hx.o.trans hxb⟩
     (simp[intOf];omega)
    have d2:decide ((n:Int)≤(k2:Int))=true:=Yf;have d2n:n≤k2:=by omega
    go_wp2_with fail;go_ret2;exact⟨_,_,rfl,by show 0≤n;omega,Hx.o⟩
   have e1:(!((b:Int)==37))=true:=by simp;omega
   have e2:((b:Int)!=37)=true:=e1;go_wp2_with fail;go_ret2;exact⟨_,_,rfl,by show 0≤n;omega,Hx.o⟩
 have hd_i:=GEl i n;go_wp2_with fail;all_goals
  go_ret2;exact⟨_,_,rfl,by omega,hx⟩
theorem Zox(w:World)(t:TypeId)(g:Nat)(hg:w.heap.size=g):Own Jr (w.alloc (.cells #[.string ⟨#[]⟩] 9)) w.heap.size (.slice (some ⟨g,0,none⟩) 1 1) [⟨#[]⟩]:=by
 subst hg;exact⟨rfl,.inr ⟨w.heap.size,1,_,rfl,Yn _,Zjc w _,Yn _,by unfold maxLen;omega,rfl,rfl⟩⟩
theorem Nv(w:World)(s:ByteArray)(t:TypeId)(g:Nat)(hg:w.heap.size=g):RdE Jr (w.alloc (.cells #[.string s] t)) (fun _=>True) (.slice (some ⟨g,0,none⟩) 1 1) [s]:=by
 subst hg;exact Qr w #[.string s] t 1 rfl
theorem Zlu{l:List ByteArray}{j:Nat}{x:ByteArray}(h:l[j]?=some x):(Jr.cells l)[j]?=some (.string x):=by
 show(l.map Value.string)[j]?=_;rw[Zn,h];rfl
def Zun(w:World)(e:Ending)(w':World):Prop:=∃ (v:Value) (l:List ByteArray),e=.returned v∧RdE Jr w' (fun k=>w.heap.size≤k) v l∧1≤l.length∧l.length≤4097∧(∀ x∈l,x.size≤4096)∧Ext w w'
theorem Zra(s:ByteArray)(hs:s.size≤4096)(w:World):Calls prog 188 #[.string s] w (Zun w):=by
 obtain⟨n,hn⟩:=gnX (s.size);have Hn:=Y4 hn;rw[hn]at hs;obtain⟨B,hB⟩:=gnX (w.heap.size);have HB:=Y4 hB;have Ho0:=Y4 (show Own Jr (w.alloc (.cells #[.string ⟨#[]⟩] 9)) B (.slice (some ⟨w.heap.size,0,none⟩) 1 1) [⟨#[]⟩] from by rw[← hB];exact Zox w 0 _ rfl);clear hB;go_enter func188,ntmps188;go_wp2_with fail;go_loopw [4,3] (fun o u wr=>∃ (i:Nat) (l:List ByteArray),i≤n∧o=.int .i64 (i:Int)∧Own Jr wr B u l∧1≤l.length∧l.length≤i+1∧(∀ x∈l,x.size≤i)∧Ext w wr) (fun o _ _=>n-(intOf o).toNat);case atStart=>exact⟨0,[⟨#[]⟩],by omega,rfl,Ho0.o,by simp,by simp,by intro x hx;rw[Zi.1 hx];exact Yn 0,(Yl w).alloc _⟩
 clear Ho0;obtain⟨i,l,hi,rfl,ho,hl1,hl2,hmem,hx⟩:=hrel;obtain⟨m,hm⟩:=gnX (l.length);obtain⟨g,C2,rfl,hg1,hg2,hg3,hg4⟩:=ho.some_ (by omega);rw[hm]at hl1 hl2 hg3 ho⊢;have Hx:=Y4 hx;have Ho:=Y4 ho;have Hm:=Y4 hm;have Hmem:=Y4 hmem;have hBw:B≤wr.heap.size:=by rw[← HB.o];exact hx.size
 unfold maxLen at hg4;clear hx ho hm hmem;by_cases hlt:i<n
 ·obtain⟨hd_i,i0_i,i1_i⟩:=LTl i n;have hlt':i<s.size:=by rw[Hn.o];exact hlt
  obtain⟨b,hb⟩:∃ b:Nat,(s[i]'hlt').toNat=b:=⟨_,rfl⟩;cases h32:((b:Int)==32)
  rotate_left
  ·have h32n:(b==32)=true:=by simp at h32⊢;omega
   have h32p:b=32:=by simp at h32n;exact h32n
   go_wp2_with (at_builtin;refine Xt Jr _ _ _ rfl rfl rfl rfl (Ho.o.ext ((Yl _).alloc _)) rfl (Nv wr _ _ _ rfl) (by rw[Hm.o];simp;omega) (by show 16≤1000;omega) (by simp;omega) ?_;intro A3 n3 c3 w3 hg);have Hg:=Y4 hg;clear hg;go_wp2_with fail;go_roundw;case rel =>
    refine⟨i+1,l++[⟨#[]⟩],by omega,by go_num,Hg.o.own,by simp,by rw[Zs,Hm.o];simp;omega,?_,Hg.o.ext w (Hx.o.alloc _) (by rw[HB.o];exact Yn _)⟩;intro x hx;rcases Zj.1 hx with h|h
    ·have:=Hmem.o x h;omega
    rw[Zi.1 h];exact Zjn _
   case measure=>(simp[intOf];omega)
  have h32n:(b==32)=false:=by simp at h32⊢;omega
  have h32p:¬ b=32:=by simp at h32n;exact h32n
  have p1:=Vl m (by omega) (by omega);have p3:(0:Int)≤((m-1:Nat):Int):=by omega
  have p4:((m-1:Nat):Int)<(m:Int):=by omega
  have p6:m-1<m:=by omega
  obtain⟨q,hq⟩:=gnX (m-1);rw[hq]at p1 p3 p4 p6;clear hq;obtain⟨y,hy⟩:=geX (l:=l) (i:=q) (by rw[Hm.o];exact p6);have c0:=Ho.o.at_ (Zlu hy);have t0:=Ho.o.thaw q;have hyl:y.size≤i:=Hmem.o y (Zy hy);clear hy;obtain⟨k,hk⟩:=gnX (i+1);have r1:IntKind.i64.wrap ((i:Int)+1)=(k:Int):=by rw[Yp _ (by omega)];omega
  have s1:(i:Int)≤(k:Int):=by omega
  have s2:(k:Int)≤(s.size:Int):=by rw[Hn.o];omega
  have s3:(k:Int)≤(n:Int):=by omega
  obtain⟨X,hX⟩:=gnX (s.extract i k);have hXs:X.size≤1:=by rw[← hX,Ziw];omega
  have hus:¬ 9223372036854775807<y.size+X.size:=by omega
  go_wp2_with fail;go_region;all_goals
   go_wp2_with fail;go_roundw;case rel =>
    refine⟨i+1,l.set q (y++X),by omega,by rw[hk],?_,by rw[Zf,Hm.o];exact hl1,by rw[Zf,Hm.o];omega,?_,?_⟩
    ·first
     | exact(Ho.o.ext (Yl _).drew).put rfl (by rw[Hm.o];exact p6) _ rfl
     | exact(Ho.o.ext ((Yl _).drewN _)).put rfl (by rw[Hm.o];exact p6) _ rfl
     | exact(Ho.o.put rfl (by rw[Hm.o];exact p6) _ rfl).ext (Yl _).drew
     | exact(Ho.o.put rfl (by rw[Hm.o];exact p6) _ rfl).ext ((Yl _).drewN _)
    ·intro x hx;rcases Zij hx with h|h
     ·have:=Hmem.o x h;omega
     rw[h,Ym];omega
    have hx:=Hx.o;have hge:w.heap.size≤g:=by rw[HB.o];exact hg1
    first
    | exact Ya hx.drew hge _
    | exact Ya (hx.drewN _) hge _
    | exact(Ya hx hge _).drew
    | exact(Ya hx hge _).drewN _
   case measure=>(simp[intOf];omega)
 have hd_i:=GEl i n;go_wp2_with fail;go_ret;refine⟨_,l,rfl,?_,by rw[Hm.o];exact hl1,by rw[Hm.o];omega,fun x hx=>by have:=Hmem.o x hx;omega,Hx.o⟩;rw[HB.o,← Hm.o];have:=Ho.o.rd;rw[← Hm.o]at this;exact this
theorem Ztd(b B:Nat)(w:World)(hs:Src B w b):Calls prog 50 #[.pointer (some ⟨b,0,none⟩)] w fun e w'=>(∃ v,e=.returned (.bool v))∧Src B w' b∧Chg (· = b) w w':=by
 have Hs:=Y4 hs;obtain⟨a,len,cap,i,hb,hB,hl,hi,hx⟩:=hs;have hc0:w.cell? ⟨b,0,none⟩=some (.slice a len cap):=by simp[World.cell?,hb]
 have hc1:w.cell? ⟨b,1,none⟩=some (.int .i64 (i:Int)):=by simp[World.cell?,hb]
 clear hb hx;go_enter func50,ntmps50;go_wp2_with fail;go_region;all_goals
  go_wp2;go_ret;exact⟨⟨_,rfl⟩,(by have hs:=Hs.o;repeat(first|assumption|apply Src.drew)),(by have hx:=Chg.refl (· = b) w;repeat(first|assumption|apply Chg.drew))⟩
structure Vx(B b:Nat)(w w':World):Prop where
 src:Src B w' b
 chg:Chg (· = b) w w'
theorem Vx.start{B b:Nat}{w:World}(h:Src B w b):Vx B b w w:=⟨h,Chg.refl _ _⟩
theorem Vx.ext{B b:Nat}{w w1 w2:World}(h:Vx B b w w1)(x:Ext w1 w2):Vx B b w w2:=⟨h.src.ext x,h.chg.trans (x.chg _)⟩
theorem Vx.alloc{B b:Nat}{w w1:World}(h:Vx B b w w1)(o:Obj):Vx B b w (w1.alloc o):=h.ext ((Yl _).alloc o)
theorem Vx.drew{B b:Nat}{w w1:World}(h:Vx B b w w1):Vx B b w w1.drew:=h.ext (Yl _).drew
theorem Vx.trans{B b:Nat}{w w1 w2:World}(h:Vx B b w w1)(k:Vx B b w1 w2):Vx B b w w2:=⟨k.src,h.chg.trans k.chg⟩
theorem Vx.setCell{B b:Nat}{w w1:World}(h:Vx B b w w1){p:Addr}(hp:w.heap.size≤p.block)(hb:p.block≠b)(hB:B≤p.block)(u:Value):Vx B b w (w1.setCell p u):=⟨h.src.setCell hB hb u,h.chg.setCell (.inr hp) u⟩
def Zl0(B b:Nat)(n:Int)(w0 w:World)(e:Ending)(w':World):Prop:=∃ v:Nat,(v:Int)<n∧e=.returned (.int .i64 (v:Int))∧Vx B b w w'
theorem Xh(b:Nat)(n:Int)(h1:1≤n)(h2:n≤9223372036854775807)(w:World)(B:Nat)(hs:Src B w b):Calls prog 42 #[.pointer (some ⟨b,0,none⟩),.int .i64 n] w (Zl0 B b n w w) :=
 (next_any b n h1 h2 w B hs).mono fun e w' h=>by
   obtain⟨v,hv,e1,h2,h3,_⟩:=h;exact⟨v,hv,e1,h2,h3⟩
theorem Zxp(w:World)(t:TypeId)(zs:List ByteArray)(n:Nat)(hn:zs.length=n)(cs:Array Value)(hcs:cs=(zs.map Value.string).toArray)(h18:n≤1000):RdE Jr (w.alloc (.cells cs t)) (fun k=>w.heap.size≤k) (.slice (some ⟨w.heap.size,0,none⟩) n n) zs:=by
 subst hn hcs;have h1:(w.alloc (.cells (zs.map Value.string).toArray t)).heap[w.heap.size]?=some (.cells (zs.map Value.string).toArray t):=Zjc w _;show Rd _ _ 1 _ _ (zs.map Value.string);refine⟨by simp,_,_,rfl,Yn _,by unfold maxLen;omega,fun _=>⟨_,_,rfl,Yn _,(Zjz.1 h1).1,fun j u hu=>?_⟩⟩;simp only[World.cell?,h1];rw[Zjd,← hu];simp
def Zqm(B b:Nat)(w:World)(e:Ending)(w':World):Prop:=∃ c:Int,e=.returned (.int .i64 c)∧Vx B b w w'
theorem Zti(B b:Nat)(w:World)(hs:Src B w b):Calls prog 127 #[.pointer (some ⟨b,0,none⟩)] w (Zqm B b w):=by
 have Hs:=Y4 (Vx.start hs);have hbl:=hs.lt;clear hs;go_enter func127,ntmps127;go_wp2_with fail;refine(Xh b 2 (by omega) (by omega) _ B Hs.o.src).mono ?_;rintro e w1 ⟨v,hv,rfl,h1⟩;have H1:=Y4 (Hs.o.trans h1);have hb1:=h1.src.lt;clear h1;by_cases hv0:v=0
 ·subst hv0;go_wp2_with fail;refine(Xh b 9 (by omega) (by omega) _ B H1.o.src).mono ?_;rintro e w2 ⟨k,hk,rfl,h2⟩;have H2:=Y4 (H1.o.trans h2);have k0:(0:Int)≤(k:Int):=by omega
  have k1:k<9:=by omega
  go_wp2_with fail;go_ret;exact⟨_,rfl,H2.o⟩
 have e1:((v:Int)==0)=false:=by simp;omega
 have e2:(v==0)=false:=by simp;omega
 have e3:¬ (v:Int)=0:=by omega
 clear hv0;go_wp2_with fail;have hl:=Wn w1 3 [769,803,945,946,1072,1488,1576,1632,7680,7681,7682,19968,44032,8204,2381] 15 rfl _ rfl (by omega);have H3:=Y4 (H1.o.alloc (.cells #[.int .i64 769,.int .i64 803,.int .i64 945,.int .i64 946,.int .i64 1072,.int .i64 1488,.int .i64 1576,.int .i64 1632,.int .i64 7680,.int .i64 7681,.int .i64 7682,.int .i64 19968,.int .i64 44032,.int .i64 8204,.int .i64 2381] 3));refine(Xh b 15 (by omega) (by omega) _ B H3.o.src).mono ?_;rintro e w2 ⟨k,hk,rfl,h2⟩;have H4:=Y4 (H3.o.trans h2);have hl2:RdE Wb w2 (fun k=>w1.heap.size≤k) (.slice (some ⟨w1.heap.size,0,none⟩) 15 15) [769,803,945,946,1072,1488,1576,1632,7680,7681,7682,19968,44032,8204,2381]:=Rd.chg hl h2.chg (fun k hk e=>by omega);obtain⟨z,hz⟩:∃ z,([769,803,945,946,1072,1488,1576,1632,7680,7681,7682,19968,44032,8204,2381]:List Int)[k]?=some z:=⟨_,Zz (by simp;omega)⟩;obtain⟨g,o,c,hvv,_,_,_,hg,cz⟩:=Xx.get hl2 hz;simp only[Ye,Yd,Zjp,Zjj,Zj6]at hvv;obtain⟨⟨rfl,rfl⟩,-,rfl⟩:=hvv;rw[Zjd]at cz;have k0:(0:Int)≤(k:Int):=by omega
 have k1:k<15:=by omega
 clear hz hl hl2 h2;go_wp2_with fail;go_ret;exact⟨_,rfl,H4.o⟩
theorem Zmk(b:Nat)(n:Int)(h1:1≤n)(h2:n≤9223372036854775807)(w:World)(B:Nat)(hs:Src B w b) :
 ∃ v:Nat,(v:Int)<n∧Calls prog 42 #[.pointer (some ⟨b,0,none⟩),.int .i64 n] w fun e w'=>e=.returned (.int .i64 (v:Int))∧Vx B b w w':=by
 have HS:=Y4 hs;obtain⟨a,len,cap,i,hb,hB,hl,hi,hx⟩:=hs;have hc0:w.cell? ⟨b,0,none⟩=some (.slice a len cap):=by simp[World.cell?,hb]
 have hc1:w.cell? ⟨b,1,none⟩=some (.int .i64 (i:Int)):=by simp[World.cell?,hb]
 have hf1:w.frozen? ⟨b,1,none⟩=false:=by simp[World.frozen?,hb]
 by_cases hlt:i<len
 ·have HB:=Y4 hb;have HX:=Y4 hx;have HL:=Y4 hl;have HG:=Y4 hB;obtain⟨x,rfl,hxb,hxc⟩:=hx (by omega);obtain⟨z,hz,hzb⟩:=hxc i hlt;obtain⟨_,hz0,_⟩:=hxc 0 (by omega);have hspot:=Iu hz0;clear hz0;obtain⟨xb,off,spot⟩:=x;have hs0:spot=none:=hspot;subst hs0;have hz':w.cell? ⟨xb,off+i,none⟩=some (.int .i64 z):=by rw[← hz];congr 1;simp[Addr.add]
  have hd:decide ((len:Int)≤(i:Int))=false:=by simp;omega
  have hi0:(0:Int)≤(i:Int):=by omega
  have hi1:(i:Int)<(len:Int):=by omega
  have hne:¬ xb=b:=Zgs (Zk8 hxb hB);unfold maxLen at hl;clear hb hx hxc hz hxb hspot hi hB;refine⟨(Zzj z n).toNat,by have:=Fc z n h1;omega,?_⟩;go_enter func42,ntmps42;go_wp2;go_quiet (fail);go_wp2;go_quiet ((go_at_call 23;exact Calls.quiet_of_same ((pick_any _ _ h1 h2 _).mono fun _ _ h=>⟨h.1,h.2.symm⟩)));go_wp2;go_ret;exact⟨by rw[Zhw (Fc z n h1).1];rfl,⟨Zrw HB.o HG.o HL.o hlt HX.o _ _,Zub _ _ _ _ _⟩⟩
 have hd:decide ((len:Int)≤(i:Int))=true:=by simp;omega
 have hl':len≤9223372036854775807:=by unfold maxLen at hl;omega
 refine⟨0,by omega,?_⟩;go_enter func42,ntmps42;go_wp2;go_quiet (fail);go_wp2;go_ret;exact⟨rfl,⟨HS.o,(Chg.refl _ _).drewN _⟩⟩
def Zyq(a0 a1 a2 a3 a4 a5:Int):Prop:=a0≤8∧a1≤254∧a2≤5∧a3≤11∧a4≤60∧0≤a5∧a5≤4∧a5≠3
def Sw(w:World)(e:Ending)(w':World):Prop:=∃ a0 a1 a2 a3 a4 a5:Int,e=.returned (.agg #[.int .i64 a0,.int .i64 a1,.int .i64 a2,.int .i64 a3,.int .i64 a4,.int .i64 a5])∧Zyq a0 a1 a2 a3 a4 a5∧Ext w w'
theorem Zre(a0 a1 a2 a3 a4 a5:Int)(w:World)(a:Act)(ha:a.tmps[2]?.getD undef=.pointer (some ⟨w.heap.size,0,none⟩))(hd:a.defers=[])(hu:Zyq a0 a1 a2 a3 a4 a5):bodyPost prog Tryz.f44 (Sw w) Exit.ret a (w.alloc (.cells #[.int .i64 a0,.int .i64 a1,.int .i64 a2,.int .i64 a3,.int .i64 a4,.int .i64 a5] 95)) :=
 Ys (v:=.agg #[.int .i64 a0,.int .i64 a1,.int .i64 a2,.int .i64 a3,.int .i64 a4,.int .i64 a5]) (by simp[results,results44,go_sem,ha]) hd ⟨a0,a1,a2,a3,a4,a5,rfl,hu,(Yl w).alloc _⟩
theorem Zrf(c:Int)(w:World):Calls prog 44 #[.int .i64 c] w (Sw w):=by
 go_enter func44,ntmps44;go_wp2_with fail;all_goals exact Zre _ _ _ _ _ _ _ _ rfl rfl (by unfold Zyq;omega)
def Zyr(N B b:Nat)(w:World)(e:Ending)(w':World):Prop:=∃ s:ByteArray,e=.returned (.string s)∧s.size≤N∧Vx B b w w'
theorem Zzv(B b:Nat)(w:World)(hs:Src B w b):Calls prog 88 #[.pointer (some ⟨b,0,none⟩)] w (Zyr 13 B b w):=by
 have Hs:=Y4 (Vx.start hs);clear hs;go_enter func88,ntmps88;go_wp2_with fail;refine(Xh b 5 (by omega) (by omega) _ B Hs.o.src).mono ?_;rintro e w1 ⟨v,hv,rfl,h1⟩;have H1:=Y4 (Hs.o.trans h1);clear h1;by_cases hv0:0<v
 ·have e1:decide ((0:Int)<(v:Int))=true:=Yf;clear hv;go_wp2_with fail;have hl:=Zxp w1 9 [⟨#[97]⟩,⟨#[98]⟩,⟨#[109]⟩,⟨#[114,110]⟩,⟨#[65]⟩,⟨#[111]⟩,⟨#[48]⟩,⟨#[120,121]⟩,⟨#[206,177]⟩,⟨#[208,176]⟩,⟨#[97,98]⟩,⟨#[120,110,45,45,98,99,104,101,114,45,107,118,97]⟩] 12 rfl _ rfl (by omega);have hbl:=H1.o.src.lt;have H3:=Y4 (H1.o.alloc (.cells #[.string ⟨#[97]⟩,.string ⟨#[98]⟩,.string ⟨#[109]⟩,.string ⟨#[114,110]⟩,.string ⟨#[65]⟩,.string ⟨#[111]⟩,.string ⟨#[48]⟩,.string ⟨#[120,121]⟩,.string ⟨#[206,177]⟩,.string ⟨#[208,176]⟩,.string ⟨#[97,98]⟩,.string ⟨#[120,110,45,45,98,99,104,101,114,45,107,118,97]⟩] 9));refine(Xh b 12 (by omega) (by omega) _ B H3.o.src).mono ?_;rintro e w2 ⟨k,hk,rfl,h2⟩;have H4:=Y4 (H3.o.trans h2);have hl2:=Rd.chg hl h2.chg (fun k hk e=>by omega);obtain⟨L,hL⟩:∃ L:List ByteArray,[⟨#[97]⟩,⟨#[98]⟩,⟨#[109]⟩,⟨#[114,110]⟩,⟨#[65]⟩,⟨#[111]⟩,⟨#[48]⟩,⟨#[120,121]⟩,⟨#[206,177]⟩,⟨#[208,176]⟩,⟨#[97,98]⟩,⟨#[120,110,45,45,98,99,104,101,114,45,107,118,97]⟩]=L:=⟨_,rfl⟩;have hmem:∀ x∈L,x.size≤13:=by
   rw[← hL];intro x hx;simp only[Zg,Zh,Zin]at hx;rcases hx with rfl|rfl|rfl|rfl|rfl|rfl|rfl|rfl|rfl|rfl|rfl|rfl<;>decide
  have hlen:L.length=12:=by rw[← hL];rfl
  replace hl2:RdE Jr w2 (fun k=>w1.heap.size≤k) (.slice (some ⟨w1.heap.size,0,none⟩) 12 12) L:=by rw[← hL];exact hl2
  clear hL hl h2;obtain⟨z,hz⟩:∃ z,L[k]?=some z:=⟨_,Zz (by rw[hlen];omega)⟩;obtain⟨g,o,c,hvv,_,_,_,hg,cz⟩:=strs_get hl2 hz;simp only[Ye,Yd,Zjp,Zjj,Zj6]at hvv;obtain⟨⟨rfl,rfl⟩,-,rfl⟩:=hvv;rw[Zjd]at cz;have hzs:=hmem z (Zy hz);have k0:(0:Int)≤(k:Int):=by omega
  have k1:k<12:=by omega
  clear hz hl2 hmem hlen;go_wp2_with fail;go_ret;exact⟨_,rfl,hzs,H4.o⟩
 obtain rfl:v=0:=by omega
 clear hv;go_wp2_with fail;refine(Xh b 3 (by omega) (by omega) _ B H1.o.src).mono ?_;rintro e w2 ⟨k,hk,rfl,h2⟩;have H2:=Y4 (H1.o.trans h2);clear h2;obtain⟨q,hq⟩:=gnX (1+k);have r1:IntKind.i64.wrap (1+(k:Int))=(q:Int):=by rw[Yp _ (by omega)];omega
 have hq3:q≤3:=by omega
 clear hq hk;go_wp2_with fail;go_loopw [4,3] (fun o t wr=>∃ (i:Nat) (u:ByteArray),i≤3∧o=.int .i64 (i:Int)∧t=.string u∧u.size+4*i≤12∧Vx B b w wr) (fun o _ _=>(intOf o).toNat);case atStart=>exact⟨q,⟨#[]⟩,hq3,rfl,rfl,by show 0+_≤_;omega,H2.o⟩
 obtain⟨i,u,hi,rfl,rfl,hu,hx⟩:=hrel;have Hx:=Y4 hx;clear hx;by_cases hi0:0<i
 ·have d1:decide ((0:Int)<(i:Int))=true:=Yf;obtain⟨p,hp⟩:=gnX (i-1);have r2:IntKind.i64.wrap ((i:Int)-1)=(p:Int):=by rw[Yp _ (by omega)];omega
  go_wp2_with fail;refine(Zti B b _ Hx.o.src).mono ?_;rintro e w5 ⟨z,rfl,h5⟩;have H5:=Y4 (Hx.o.trans h5);clear h5;go_wp2_with fail;refine(Dt _ [z] _ (Wr w5 z _ _ rfl)).mono ?_;rintro e w6 ⟨t6,x6,rfl,ht6,hx6⟩;have H6:=Y4 ((H5.o.alloc _).ext hx6);simp only[Zl,Zk]at ht6;have hus:¬ 9223372036854775807<u.size+t6.size:=by omega
  clear hx6;go_wp2_with fail;go_roundw;case rel=>exact⟨p,_,by omega,rfl,rfl,by rw[Ym];omega,H6.o⟩
  (simp[intOf];omega)
 obtain rfl:i=0:=by omega
 go_wp2_with fail;go_ret;exact⟨_,rfl,by omega,Hx.o⟩
