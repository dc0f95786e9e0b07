/- Lemmas of this claim: Pack, PutInt, GetInt, Reader, Names, Entry, Encode. Conditions: as named. -/
import Derived.Laws.BitsAllLaws
import Derived.Laws.DeepNot64
import Derived.Laws.IdiomCopy
import Derived.WalkSmall
import Derived.Sort.Walk0
import Derived.Test.YtnbclgbicnpmnaaGreatA02
namespace Go.Proofs.YtnbclgbicnpmnaaGreat
open Go.RowKit Go.Sort Tryz
set_option maxHeartbeats 0
set_option maxRecDepth 100000
set_option linter.all false
theorem Zjb:(prog.info? 5).map (fun i=>(i.zero,i.size,i.bytes))=some (some (.int .u8 0),1,1):=by kernel_rfl
def Ztf(w:World)(base:Nat)(v:Value)(l:List UInt8):Prop :=
 ∃ g cap,v=.slice (some ⟨g,0,none⟩) l.length cap∧base≤g∧g<w.heap.size∧l.length≤cap∧(∀ o,o<cap→(w.cell? ⟨g,o,none⟩).isSome=true∧w.frozen? ⟨g,o,none⟩=false)∧∀ j b,l[j]?=some b→w.cell? ⟨g,j,none⟩=some (.int .u8 (b.toNat:Int))
theorem Ztf.keep{w w':World}{base:Nat}{v:Value}{l:List UInt8}(h:Ztf w base v l)(x:Ext w w'):Ztf w' base v l:=by
 obtain⟨g,cap,h1,h2,h3,h4,h5,h6⟩:=h;exact⟨g,cap,h1,h2,Zgp h3 x.size,h4,fun o ho=>⟨by rw[x.cell (p:=⟨g,o,none⟩) h3];exact(h5 o ho).1,by rw[x.frozen (p:=⟨g,o,none⟩) h3];exact(h5 o ho).2⟩,fun j b hj=>by rw[x.cell (p:=⟨g,j,none⟩) h3];exact h6 j b hj⟩
theorem Zz4(s:ByteArray){j:Nat}{b:UInt8}(h:s.data.toList[j]?=some b):byteAt s j=(b.toNat:Int):=by
 obtain⟨hj,he⟩:=Zr.1 h;have hj':j<s.size:=by simpa using hj
 unfold byteAt;rw[Zc5 hj'];have:s[j]=b:=by rw[← he];simp[Zdr]
 rw[this]
theorem Pn(w:World)(s:ByteArray) :
 Ztf (w.alloc (.cells (bytesRow s (grownCap w s.size 0 5)) 5 ((bytesRow s (grownCap w s.size 0 5)).size,(bytesRow s (grownCap w s.size 0 5)).size+1))).drew w.heap.size (.slice (some ⟨w.heap.size,0,none⟩) s.size (grownCap w s.size 0 5)) s.data.toList:=by
 obtain⟨c,hc⟩:=gnX (grownCap w s.size 0 5);have hge:s.size≤c:=hc▸grownCap_ge w s.size 0 5;rw[hc];have hsz:(bytesRow s c).size=c:=by
  unfold bytesRow;simp only[Zcp,Array.size_map,Array.size_replicate];have:s.data.size=s.size:=rfl;omega
 have h1:(w.alloc (.cells (bytesRow s c) 5 ((bytesRow s c).size,(bytesRow s c).size+1))).drew.heap[w.heap.size]?=some (.cells (bytesRow s c) 5 ((bytesRow s c).size,(bytesRow s c).size+1)):=Zg3 w _;refine⟨w.heap.size,c,rfl,Ym _,(Zgk.1 h1).1,hge,fun o ho=>⟨?_,?_⟩,fun j b hj=>?_⟩
 ·simp only[World.cell?,h1];rw[Zgj (by omega)];rfl
 ·simp only[World.frozen?,h1];have hno:¬ (bytesRow s c).size≤o:=by omega
  simp[hno]
 have hjl:=(Zr.1 hj).1;rw[P5 w s c 5 _ (k:=j) hjl,Zz4 s hj]
theorem Mj{w:World}{base:Nat}{v:Value}{l:List UInt8}(h:Ztf w base v l):(convert 224 9 v).run prog w=.ok (.string (bs l)) w:=by
 obtain⟨g,cap,rfl,_,_,_,_,h6⟩:=h;exact run_convert_bytes_back w 224 9 5 ⟨g,0,none⟩ cap l Uo Mr Ff fun j hj=>by rw[Br];exact h6 j l[j] (by simp[hj])
theorem Og{w:World}{base:Nat}{v:Value}{l:List UInt8}(h:Ztf w base v l)(ty:TypeId){x:UInt8}{ad c:Nat}(hx:w.cell? ⟨ad,0,none⟩=some (.int .u8 (x.toNat:Int)))(hl:l.length+1≤140737488355328)(hb:base≤w.heap.size) :
 ∃ v' w',(Builtin.append_ #[224,224] ty #[v,.slice (some ⟨ad,0,none⟩) 1 c]).run prog w=.ok v' w'∧Ztf w' base v' (l++[x])∧Chg (fun i=>base≤i) w w':=by
 obtain⟨i0,hi,hz0,hz1,hz2⟩:=Zgl Zjb;obtain⟨g,cap,rfl,h2,h3,h4,h5,h6⟩:=h;have hnews:∀ j u,([Value.int .u8 (x.toNat:Int)]:List Value)[j]?=some u→w.cell? ((⟨ad,0,none⟩:Addr).add j)=some u:=fun j u hj=>by
  obtain rfl:j=0:=by
   have:=(Zr.1 hj).1;simpa using this
  simp only[Zx,Yc]at hj;subst hj;rw[Br];exact hx
 by_cases hroom:l.length+1≤cap
 ·have hf:=run_firstCells_some (P:=prog) w 1 1 ⟨ad,0,none⟩ 1 c [.int .u8 (x.toNat:Int)] (by simp) hnews;have hcell:=h5 l.length (by omega);have hone:∀ j,j<([Value.int .u8 (x.toNat:Int)]:List Value).length→j=0:=fun j hj=>by simpa using hj
  have hst:=run_storeCells_cells (P:=prog) g l.length [.int .u8 (x.toNat:Int)] 0 w (fun j hj=>by rw[hone j hj];exact hcell.1) (fun j hj=>by rw[hone j hj];exact hcell.2) (by simp[Value.oneCell']);simp only[Zfu,World.setCells]at hst;obtain⟨u,hu⟩:=Zeh.1 hcell.1;refine⟨.slice (some ⟨g,0,none⟩) (l.length+1) cap,w.setCell ⟨g,l.length,none⟩ (.int .u8 (x.toNat:Int)),?_,⟨g,cap,by simp,h2,by simpa[World.setCell]using h3,by simpa using hroom,fun o ho=>⟨?_,?_⟩,fun j b hj=>?_⟩,(Chg.refl _ w).setCell (.inl h2) _⟩
  ·simp[Builtin.append_,run_underlying Uo,sizeOf,typeInfo,hi,hz1,Builtin.lenOf,hroom,hf,Addr.add_lit,hst]
  ·by_cases ho':o=l.length
   ·subst ho';rw[World.cell?_setCell_same _ _ _ hu];rfl
   rw[World.cell?_setCell_other _ _ _ _ (by intro e;simp at e<;>omega)];exact(h5 o ho).1
  ·rw[Zer];exact(h5 o ho).2
  by_cases hj':j=l.length
  ·subst hj';rw[World.cell?_setCell_same _ _ _ hu];simp at hj;rw[hj]
  have hjl:=(Zr.1 hj).1;rw[World.cell?_setCell_other _ _ _ _ (by intro e;simp at e<;>omega)];exact h6 j b (by rw[Ze (by simp at hjl;omega)]at hj;exact hj)
 have holds:∀ j u,(l.map fun b=>Value.int .u8 (b.toNat:Int))[j]?=some u→w.cell? ((⟨g,0,none⟩:Addr).add j)=some u:=fun j u hj=>by
  rw[Zn,Zg9]at hj;obtain⟨b,hb,rfl⟩:=hj;rw[Br];exact h6 j b hb
 have hr:=run_append_grow (P:=prog) w 224 ty 5 i0 _ Uo hi hz0 ⟨g,0,none⟩ l.length cap (l.map fun b=>Value.int .u8 (b.toNat:Int)) (by simp[hz1]) holds ⟨ad,0,none⟩ 1 c [.int .u8 (x.toNat:Int)] (by simp[hz1]) hnews (by omega) (by omega) (by rw[hz2];exact growslice_fits (by omega) (by omega));obtain⟨c2,hc2⟩:=gnX (grownCap w (l.length+1) cap 5);have hge:l.length+1≤c2:=hc2▸grownCap_ge w (l.length+1) cap 5;rw[hc2]at hr;obtain⟨A,hA⟩:=gnX ((l.map fun b=>Value.int .u8 (b.toNat:Int)).toArray++[Value.int .u8 (x.toNat:Int)].toArray++Builtin.zeroCells (Value.int .u8 0).cells (c2-(l.length+1)));have hAs:A.size=c2:=by
  rw[← hA];simp only[Zcp,List.size_toArray,Zq,Zl,Zk,size_zeroCells];show l.length+(0+1)+(c2-(l.length+1))*1=c2;omega
 rw[hA]at hr;have h1:(w.drew.alloc (.cells A 5)).heap[w.heap.size]?=some (.cells A 5):=Zg3 w.drew _;refine⟨_,_,hr,⟨w.heap.size,c2,by simp,hb,(Zgk.1 h1).1,by simpa using hge,fun o ho=>⟨?_,?_⟩,fun j b hj=>?_⟩,((Chg.refl _ w).drew).alloc _⟩
 ·simp only[World.cell?,h1];rw[Zgj (by omega)];rfl
 ·simp only[World.frozen?,h1];simp
 simp only[World.cell?,h1];have hjl:=(Zr.1 hj).1;have hl2:(l.map fun b=>Value.int .u8 (b.toNat:Int)).toArray++[Value.int .u8 (x.toNat:Int)].toArray=((l++[x]).map fun b=>Value.int .u8 (b.toNat:Int)).toArray:=by simp
 rw[← hA,Ze8 (by simp at hjl⊢;omega),hl2,Z5,Zn,hj];rfl
theorem wpList_append_byte{ops:Array Oper}{rest:List Oper}{o:Oper}{a:Act}{Q:Exit→Act→World→Prop}{w:World}(hgd:o.guard=none)(s x:Operand)(ho:o.op=.call {callee:=.builtin .append,args:=#[s,x],argTypes:=#[224,224]})
 (base:Nat) (v:Value) (l:List UInt8) (hs:a.eval s=v) (h:Ztf w base v l) (b:UInt8) (ad c:Nat) (hx:a.eval x=.slice (some ⟨ad,0,none⟩) 1 c) (hc:w.cell? ⟨ad,0,none⟩=some (.int .u8 (b.toNat:Int))) (hl:l.length+1≤140737488355328) (hb:base≤w.heap.size)
 (hK:∀ v' w',Ztf w' base v' (l++[b])→Chg (fun i=>base≤i) w w'→wpList prog ops Q rest (a.put o.dst v') w'):wpList prog ops Q (o::rest) a w:=by
 refine Zdd hgd fun K' hK'=>?_
 obtain⟨v',w',hrun,r1,r2⟩:=Og (c:=c) h o.type hc hl hb;unfold Oper.wp;simp[execOp,ho,resolve,invoke,builtin,hs,hx,hrun,Result.andThen];exact hK' _ _ (hK v' w' r1 r2)
theorem Zl3(x:Nat)(hx:x<18446744073709551616):bits .xor .u64 (x:Int) 18446744073709551615=18446744073709551615-(x:Int):=by
 show IntKind.u64.wrap ((BitVec.ofInt 64 (x:Int) ^^^ BitVec.ofInt 64 18446744073709551615).toNat:Int)=_;have h1:BitVec.ofInt 64 18446744073709551615=BitVec.allOnes 64:=by decide
 rw[h1,BitVec.xor_allOnes,BitVec.toNat_not,ofInt_u64 x (by omega)];simp[IntKind.wrap,IntKind.bits,IntKind.signed];omega
theorem Zl2(x:Nat)(hx:x<18446744073709551616):bits .xor .u64 (x:Int) 0=(x:Int):=by
 have:=u64_xor_nat x 0 hx (by omega);simpa using this
theorem Zi3{v:Int}(h1 : -9223372036854775808≤v)(h2:v≤9223372036854775807) :
 bits BinOp.xor IntKind.u64 (IntKind.u64.wrap (IntKind.u64.wrap v*2)) (IntKind.u64.wrap (v/9223372036854775808))=((zz v:Nat):Int):=by
 simp only[Zch];by_cases h0:0≤v
 ·have e1:v/9223372036854775808%18446744073709551616=0:=by omega
  have e2:v%18446744073709551616*2%18446744073709551616=((zz v:Nat):Int):=by unfold zz;rw[Zgn h0];omega
  rw[e1,e2,Zl2 _ (Ztp h1 h2)]
 have e1:v/9223372036854775808%18446744073709551616=18446744073709551615:=by omega
 have e2:v%18446744073709551616*2%18446744073709551616=((18446744073709551615-zz v:Nat):Int):=by
  have:=Ztp h1 h2;unfold zz at this⊢;rw[Zgq h0]at this⊢;omega
 have:=Ztp h1 h2;rw[e1,e2,Zl3 _ (by omega)];omega
theorem Zhj(z:Nat):bits .or .u8 ((z:Int)%256) 128=((UInt8.ofNat (z%128+128)).toNat:Int):=by
 rw[Zoq (by omega)];have e:((z:Int)%256)=((z%256:Nat):Int):=by omega
 rw[e];have h:=u8_or_nat (z%256) 128 (by omega) (by omega);rw[show((128:Nat):Int)=128 from rfl]at h;rw[h];have:∀ y,y<256→y ||| 128=y%128+128:=by decide
 rw[this _ (by omega)];omega
def Zt6(w:World)(s:ByteArray)(v:Int)(z:Nat)(o:Value)(wr:World):Prop :=
 ∃ done g c,done++leb z=code v∧o=.slice (some ⟨g,0,none⟩) (s.size+done.length) c∧Ztf wr w.heap.size o (s.data.toList++done)∧Ext w wr
theorem Fm(s:ByteArray)(v:Int)(hv:I64 v)(hs:s.size+10≤140737488355328)(w:World) :
 Calls prog 118 #[.string s,.int .i64 v] w fun e w'=>e=.returned (.string (s++bs (code v)))∧Ext w w':=by
 obtain⟨h1,h2⟩:=hv;have hcv:=fun w s=>run_bytes_of_string (P:=prog) w 9 224 5 s Ff Uo Mr
 have hrow:=Pn w s;have hx0:Ext w (w.alloc (.cells (bytesRow s (grownCap w s.size 0 5)) 5 ((bytesRow s (grownCap w s.size 0 5)).size,(bytesRow s (grownCap w s.size 0 5)).size+1))).drew:=((Yk w).alloc _).drew;have HP:=Y8 (show Zt6 w s v (zz v) _ _ from⟨[],_,_,rfl,rfl,by simpa using hrow,hx0⟩);have Hz:=Y8 (Zi3 h1 h2);have Hc10:=Y8 (Vj h1 h2);clear hrow hx0;go_enter func118,ntmps118;go_wp2_with fail;go_loopw [5,6] (fun x o wr=>∃ z:Nat,z<18446744073709551616∧x=.int .u64 (z:Int)∧Zt6 w s v z o wr) (fun x _ _=>(intOf x).toNat);case atStart=>exact⟨zz v,Ztp h1 h2,by rw[Hz.o],HP.o⟩
 clear HP hcv;obtain⟨z,hz,rfl,done,g,c,hd,rfl,hrow,hx⟩:=hrel;have hlen:done.length+(leb z).length≤10:=by have:=Hc10.o;rw[← hd,Zs]at this;exact this
 have hlp:=Zqv z;have hsl:(s.data.toList++done).length=s.size+done.length:=by rw[Zs];rfl
 have Hrow:=Y8 hrow;have Hx:=Y8 hx;have Hd:=Y8 hd;have Hsl:=Y8 hsl;clear hrow hx hd hsl;by_cases hz1:128≤z
 ·have hd1:decide (128≤z)=true:=by simpa using hz1
  have hxa:Ext wr (wr.alloc (.cells #[.int .u8 (bits .or .u8 ((z:Int)%256) 128)] 5)):=(Yk wr).alloc _;have hcell:(wr.alloc (.cells #[.int .u8 (bits .or .u8 ((z:Int)%256) 128)] 5)).cell? ⟨wr.heap.size,0,none⟩=some (.int .u8 ((UInt8.ofNat (z%128+128)).toNat:Int)):=by
   rw[← Zhj z];go_simp
  have hb:=Sc (u:=z) (by omega);have hbl:(leb z).length=(leb (z/128)).length+1:=by rw[hb];simp
  have hsz:=Hx.o.size;have Hb:=Y8 hb;clear hb;go_wp2_with (at_builtin;refine wpList_append_byte rfl _ _ rfl w.heap.size _ _ rfl (Hrow.o.keep hxa) _ _ _ rfl hcell (by rw[Hsl.o];omega) (by have:=hxa.size;omega) ?_;intro v' w1 hrow1 hgrow1;have hcs:=Mj hrow1);have hx1:Ext w w1:=(Hx.o.trans hxa).chg_new hgrow1 (fun i hi=>hi);have hd2:(done++[UInt8.ofNat (z%128+128)])++leb (z/128)=code v:=by rw[Zek,List.singleton_append,← Hb.o];exact Hd.o
  have hrow2:Ztf w1 w.heap.size v' (s.data.toList++(done++[UInt8.ofNat (z%128+128)])):=by rw[← Zek];exact hrow1
  obtain⟨g2,c2,hv2,_⟩:=id hrow2;have hl2:(s.data.toList++(done++[UInt8.ofNat (z%128+128)])).length=s.size+(done++[UInt8.ofNat (z%128+128)]).length:=by rw[Zs];rfl
  rw[hl2]at hv2;subst hv2;have Hend:=Y8 (show Zt6 w s v (z/128) _ w1 from⟨_,_,_,hd2,rfl,hrow2,hx1⟩);have hq:(z:Int)/128=((z/128:Nat):Int):=by omega
  clear hx1 hd2 hrow2 hrow1 hgrow1 hxa hcell hl2 hcs;go_wp2_with fail;go_roundw;case rel=>exact⟨z/128,by omega,by rw[hq],Hend.o⟩
  simp[intOf];omega
 have hd1:decide (128≤z)=false:=by simpa using hz1
 have hxa:Ext wr (wr.alloc (.cells #[.int .u8 (z:Int)] 5)):=(Yk wr).alloc _;have hcell:(wr.alloc (.cells #[.int .u8 (z:Int)] 5)).cell? ⟨wr.heap.size,0,none⟩=some (.int .u8 ((UInt8.ofNat z).toNat:Int)):=by
  rw[Zoq (show z<256 by omega)];go_simp
 have hb:=Gf (u:=z) (by omega);have hsz:=Hx.o.size;have Hb:=Y8 hb;clear hb;go_wp2_with (at_builtin;refine wpList_append_byte rfl _ _ rfl w.heap.size _ _ rfl (Hrow.o.keep hxa) _ _ _ rfl hcell (by rw[Hsl.o];omega) (by have:=hxa.size;omega) ?_;intro v' w1 hrow1 hgrow1;have hcs:=Mj hrow1);have hx1:Ext w w1:=(Hx.o.trans hxa).chg_new hgrow1 (fun i hi=>hi);have hfin:bs (s.data.toList++(done++[UInt8.ofNat z]))=s++bs (code v):=by rw[← Hb.o,Hd.o,K9,Zyb]
 rw[hfin];go_ret;exact⟨rfl,hx1⟩
theorem Zgy(k:Nat):(2:Nat) ^ (7*k)=128 ^ k:=by rw[Nat.pow_mul]
theorem Zjs{n:Nat}(hn:n<256):bits .and .u8 (n:Int) 127=((n%128:Nat):Int):=by
 have h:=u8_and_nat n 127 hn (by omega);rw[show((127:Nat):Int)=127 from rfl]at h;rw[h];have:∀ y,y<256→y &&& 127=y%128:=by decide
 rw[this n hn]
theorem Zq2{acc k n:Nat}(ha:acc<128 ^ k)(hk:k≤9)(hn:n<256)(h9:k=9→n≤1) :
 bits .or .u64 (acc:Int) (IntKind.u64.wrap (IntKind.u64.wrap (bits .and .u8 (n:Int) 127)*2 ^ (7*k)))=((acc+n%128*128 ^ k:Nat):Int):=by
 have hm:n%128<128:=Zca _ (by omega);have hp:(128:Nat) ^ k≤128 ^ 9:=Zf6 (by omega) hk;have hb:n%128*128 ^ k<18446744073709551616:=by
  by_cases h:k=9
  ·subst h;have:=h9 rfl;have:n%128≤1:=by omega
   have:=Zgi (128 ^ 9) this;omega
  have h8:(128:Nat) ^ k≤128 ^ 8:=Zf6 (by omega) (by omega);have:=Zdf (show n%128≤127 by omega) h8;omega
 have ha2:acc<18446744073709551616:=by omega
 have e1:IntKind.u64.wrap (IntKind.u64.wrap (bits .and .u8 (n:Int) 127)*2 ^ (7*k))=((n%128*128 ^ k:Nat):Int):=by
  have e0:((n%128:Nat):Int)%18446744073709551616=((n%128:Nat):Int):=by omega
  have e2:((n%128:Nat):Int)*2 ^ (7*k)=((n%128*128 ^ k:Nat):Int):=by
   rw[← Zgy k,Zcc,Int.natCast_pow];rfl
  rw[Zjs hn,Zch,Zch,e0,e2];obtain⟨q,hq⟩:=gnX (n%128*128 ^ k);rw[hq]at hb⊢;omega
 rw[e1];have h:=u64_or_nat acc (n%128*128 ^ k) ha2 hb;rw[h];congr 1;rw[← Zgy,Nat.or_comm,← Nat.shiftLeft_eq,Nat.add_comm];exact(Nat.shiftLeft_add_eq_or_of_lt (by rw[Zgy];exact ha) _).symm
theorem Zzl(a:Nat)(ha:a<9223372036854775808):bits .xor .i64 (a:Int) 0=(a:Int):=by
 show IntKind.i64.wrap ((BitVec.ofInt 64 (a:Int) ^^^ BitVec.ofInt 64 0).toNat:Int)=_;have h1:BitVec.ofInt 64 0=0#64:=by decide
 rw[h1,BitVec.xor_zero,ofInt_u64 a (by omega)];simp[IntKind.wrap,IntKind.bits,IntKind.signed];omega
theorem Zzm(a:Nat)(ha:a<9223372036854775808):bits .xor .i64 (a:Int) (-1) = -1-(a:Int):=by
 show IntKind.i64.wrap ((BitVec.ofInt 64 (a:Int) ^^^ BitVec.ofInt 64 (-1)).toNat:Int)=_;have h1:BitVec.ofInt 64 (-1)=BitVec.allOnes 64:=by decide
 rw[h1,BitVec.xor_allOnes,BitVec.toNat_not,ofInt_u64 a (by omega)];simp[IntKind.wrap,IntKind.bits,IntKind.signed];omega
theorem Zoj{z:Nat}(hz:z<18446744073709551616):bits BinOp.xor IntKind.i64 (wrap64 ((z:Int)/2)) (wrap64 (-wrap64 (bits BinOp.and IntKind.u64 (z:Int) 1)))=Zok z:=by
 have e1:wrap64 ((z:Int)/2)=((z/2:Nat):Int):=by unfold wrap64;omega
 rw[and_one_u64 (z:Int) (by omega) (by omega),e1];unfold Zok;by_cases h:z%2=0
 ·have e2:(z:Int)%2=0:=by omega
  rw[e2,Zgn h];have e3:wrap64 (-wrap64 0)=0:=by simp[wrap64]
  rw[e3];exact Zzl _ (by omega)
 have e2:(z:Int)%2=1:=by omega
 rw[e2,Zgq h];have e3:wrap64 (-wrap64 1) = -1:=by simp[wrap64]
 rw[e3,Zzm _ (by omega)];omega
def GetPost(s:ByteArray)(at_:Nat)(w:World)(e:Ending)(w':World):Prop :=
 w'=w∧((∃ v k,Ii (s.data.toList.drop at_)=some (v,k)∧e=.returned (.tuple #[.int .i64 v,.int .i64 ((at_+k:Nat):Int),.int .i64 0])) ∨
  (Ii (s.data.toList.drop at_)=none∧∃ c:Int,c≠0∧e=.returned (.tuple #[.int .i64 0,.int .i64 (at_:Int),.int .i64 c])))
def Zl5(L:List UInt8)(acc k:Nat):Prop:=acc<128 ^ k∧Ij 0 0 L=Ij k acc (L.drop k)
theorem Rv(s:ByteArray)(at_:Nat)(hat:at_≤s.size)(hs:s.size≤140737488355328)(w:World) :
 Calls prog 168 #[.string s,.int .i64 (at_:Int)] w (GetPost s at_ w):=by
 have hd0:decide ((at_:Int)<0)=false:=by simp
 have hd1:decide ((s.size:Int)<(at_:Int))=false:=by simp;omega
 have hd2:¬ ((s.size:Int)<(at_:Int)):=by omega
 obtain⟨L,hL⟩:=gnX (s.data.toList.drop at_);have hLl:L.length=s.size-at_:=by rw[← hL,Yz];rfl
 have HL:=Y8 hL;clear hL;go_enter func168,ntmps168;go_wp2_with fail;go_loopw [7,8] (fun x i wr=>∃ acc k:Nat,k≤9∧x=.int .u64 (acc:Int)∧i=.int .i64 (k:Int)∧Zl5 L acc k∧at_+k≤s.size∧wr=w) (fun _ i _=>(10-intOf i).toNat);case atStart=>exact⟨0,0,by omega,rfl,rfl,⟨by simp,by simp⟩,by omega,rfl⟩
 obtain⟨acc,k,hk,rfl,rfl,hrel,hkl,rfl⟩:=hrel;have Hrel:=Y8 hrel;clear hrel;by_cases hlt:at_+k<s.size
 ·have hd3:decide ((s.size:Int)≤(at_:Int)+(k:Int))=false:=by simp;omega
  have hd4:¬ ((s.size:Int)≤(at_:Int)+(k:Int)):=by omega
  obtain⟨c,hc⟩:∃ c,s.data.toList[at_+k]?=some c:=⟨_,Zz (by simpa using hlt)⟩;have hlv:∀ h,(s[at_+k]'h).toNat=c.toNat:=fun h=>by
   have:s[at_+k]=c:=by
    obtain⟨h1,h2⟩:=Zr.1 hc;rw[← h2];simp[Zdr]
   rw[this]
  have hstep:L.drop k=c::L.drop (k+1):=by
   rw[← HL.o,Zcr,Zcr];rw[Zep (by simpa using hlt)];congr 1;obtain⟨h1,h2⟩:=Zr.1 hc;exact h2
  have hc256:=UInt8.toNat_lt c;obtain⟨n,hn⟩:=gnX (c.toNat);rw[hn]at hlv hc256;have Hn:=Y8 hn;have Hstep:=Y8 hstep;have hget:Ij k acc (L.drop k)=if k=9∧1<n then none else if 128≤n then Ij (k+1) (acc+n%128*128 ^ k) (L.drop (k+1))else if n=0∧0<k then none else some (acc+n*128 ^ k,k+1):=by
   rw[hstep,Ij,hn]
  have hI:Ii L=(Ij k acc (L.drop k)).map fun p=>(Zok p.1,p.2):=by unfold Ii;rw[Hrel.o.2]
  rw[hget]at hI;have HI:=Y8 hI;clear hc hstep hn hget hI;by_cases hA:k=9∧1<n
  ·obtain⟨rfl,hn1⟩:=hA;have Hno:=Y8 (show Ii L=none by rw[HI.o,Zgn ⟨rfl,hn1⟩];rfl);clear HI;go_wp2_with fail;go_ret3;exact⟨rfl,.inr ⟨by rw[HL.o];exact Hno.o,4,by omega,rfl⟩⟩
  by_cases hB:128≤n
  ·have hk9:¬ k=9:=fun e=>hA ⟨e,by omega⟩
   have hk9':((k:Int)==9)=false:=by simp;omega
   have hor:=Zq2 (n:=n) Hrel.o.1 hk hc256 (fun e=>absurd e hk9);have hlt2:acc+n%128*128 ^ k<128 ^ (k+1):=by
    have h1:=Hrel.o.1;have h2:=Zgi (128 ^ k) (show n%128≤127 by omega);rw[Zcy];omega
   have hp:(128:Nat) ^ (k+1)≤128 ^ 9:=Zf6 (by omega) (by omega);have hrel2:Ij 0 0 L=Ij (k+1) (acc+n%128*128 ^ k) (L.drop (k+1)):=by
    rw[Hrel.o.2,Hstep.o,Ij,Hn.o,Zgq hA,Zgn hB]
   obtain⟨z,hz⟩:=gnX (acc+n%128*128 ^ k);rw[hz]at hor hlt2 hrel2;have Hend:=Y8 (show Zl5 L z (k+1) from⟨hlt2,hrel2⟩);clear hz hlt2 hrel2 hp hA HI;go_wp2_with fail;go_roundw;case rel=>exact⟨z,k+1,by omega,rfl,by go_num,Hend.o,by omega,trivial⟩
   simp[intOf];omega
  by_cases hC:n=0∧0<k
  ·obtain⟨rfl,hk0⟩:=hC;have Hno:=Y8 (show Ii L=none by rw[HI.o,Zgq hA,Zgq hB,Zgn ⟨rfl,hk0⟩];rfl);clear HI hA;go_wp2_with fail;all_goals(go_ret3;exact⟨rfl,.inr ⟨by rw[HL.o];exact Hno.o,4,by omega,rfl⟩⟩)
  have hor:=Zq2 (n:=n) Hrel.o.1 hk hc256 (fun e=>by have:=fun h=>hA ⟨e,h⟩;omega);have hnm:n%128=n:=by omega
  rw[hnm]at hor;have hz64:acc+n*128 ^ k<18446744073709551616:=by
   have h1:=Hrel.o.1;have hp:(128:Nat) ^ k≤128 ^ 9:=Zf6 (by omega) hk;by_cases h:k=9
   ·have h2:n≤1:=by have:=fun h'=>hA ⟨h,h'⟩;omega
    subst h;have:=Zgi (128 ^ 9) h2;omega
   have h8:(128:Nat) ^ k≤128 ^ 8:=Zf6 (by omega) (by omega);have:=Zdf (show n≤127 by omega) h8;omega
  have Hyes:=Y8 (show Ii L=some (Zok (acc+n*128 ^ k),k+1) by rw[HI.o,Zgq hA,Zgq hB,Zgq hC];rfl);obtain⟨z,hz⟩:=gnX (acc+n*128 ^ k);rw[hz]at hor hz64 Hyes;have hfin:=Zoj hz64;have hfin2:bits BinOp.xor IntKind.i64 ((z:Int)/2) (wrap64 (-wrap64 (bits BinOp.and IntKind.u64 (z:Int) 1)))=Zok z:=by
   rw[← hfin];congr 1;unfold wrap64;omega
  have Hfin:=Y8 hfin;have Hfin2:=Y8 hfin2;clear hfin hfin2;clear hz HI hnm;by_cases h0:n=0
  ·subst h0;obtain rfl:k=0:=by have:=fun h=>hC ⟨rfl,h⟩;omega
   have hlv0:∀ h,(s[at_]'h).toNat=0:=fun h=>hlv h
   have hor3:bits .or .u64 (acc:Int) (IntKind.u64.wrap (IntKind.u64.wrap (bits .and .u8 0 127)))=(z:Int):=by simpa using hor
   clear hA hC hlv hor;go_wp2_with fail;go_ret3;exact⟨rfl,.inl ⟨_,_,by rw[HL.o];exact Hyes.o,by first|(rw[Hfin.o];rfl)|(rw[Hfin2.o];rfl)⟩⟩
  by_cases h9:k=9
  ·obtain rfl:n=1:=by have:=fun h=>hA ⟨h9,h⟩;omega
   subst h9;have hor2:bits .or .u64 (acc:Int) (IntKind.u64.wrap (IntKind.u64.wrap (bits .and .u8 1 127)*9223372036854775808))=(z:Int):=hor;clear hA hC hor;go_wp2_with fail;go_ret3;exact⟨rfl,.inl ⟨_,_,by rw[HL.o];exact Hyes.o,by first|(rw[Hfin.o];rfl)|(rw[Hfin2.o];rfl)⟩⟩
  clear hA hC;go_wp2_with fail;go_ret3;exact⟨rfl,.inl ⟨_,_,by rw[HL.o];exact Hyes.o,by first|(rw[Hfin.o];rfl)|(rw[Hfin2.o];rfl)⟩⟩
 have hd3:decide ((s.size:Int)≤(at_:Int)+(k:Int))=true:=by simp;omega
 have hd4:((s.size:Int)≤(at_:Int)+(k:Int)):=by omega
 have Hno:=Y8 (show Ii L=none by unfold Ii;rw[Hrel.o.2,List.drop_eq_nil_of_le (by omega)];rfl);go_wp2_with fail;go_ret3;exact⟨rfl,.inr ⟨by rw[HL.o];exact Hno.o,5,by omega,rfl⟩⟩
theorem Zyl{s:ByteArray}{t:Nat}{v:Int}{k:Nat}(hg:Ii (s.data.toList.drop t)=some (v,k))(ht:t≤s.size)(hs:s.size≤140737488355328)(w:World) :
 Calls prog 168 #[.string s,.int .i64 (t:Int)] w fun e w'=>e=.returned (.tuple #[.int .i64 v,.int .i64 ((t+k:Nat):Int),.int .i64 0])∧w=w':=by
 refine(Rv s t ht hs w).mono ?_;rintro e w1 ⟨rfl,⟨v',k',h,rfl⟩ | ⟨h,_⟩⟩
 ·rw[hg]at h;simp only[Yc,Zfk]at h;obtain⟨rfl,rfl⟩:=h;exact⟨rfl,rfl⟩
 rw[hg]at h;simp at h
theorem Zym{s:ByteArray}{t:Nat}(hg:Ii (s.data.toList.drop t)=none)(ht:t≤s.size)(hs:s.size≤140737488355328)(w:World) :
 Calls prog 168 #[.string s,.int .i64 (t:Int)] w fun e w'=>∃ c:Int,(c==0)=false∧e=.returned (.tuple #[.int .i64 0,.int .i64 (t:Int),.int .i64 c])∧w=w':=by
 refine(Rv s t ht hs w).mono ?_;rintro e w1 ⟨rfl,⟨v',k',h,rfl⟩ | ⟨_,c,hc,rfl⟩⟩
 ·rw[hg]at h;simp at h
 exact⟨c,by simpa using hc,rfl,rfl⟩
def Km(w:World)(b:Nat)(s:ByteArray)(t:Nat)(bad:Bool):Prop :=
 b<w.heap.size∧(∀ i,w.frozen? ⟨b,i,none⟩=false)∧w.cell? ⟨b,0,none⟩=some (.string s)∧w.cell? ⟨b,1,none⟩=some (.int .i64 (t:Int))∧w.cell? ⟨b,2,none⟩=some (.bool bad)
theorem Km.chg{S:Nat→Prop}{w w':World}{b t:Nat}{s:ByteArray}{bad:Bool}(h:Km w b s t bad)(c:Chg S w w')(hb:¬ S b):Km w' b s t bad:=by
 obtain⟨h1,h2,h3,h4,h5⟩:=h;exact⟨Zgp h1 c.size,fun i=>(c.frozen (p:=⟨b,i,none⟩) h1 hb).trans (h2 i),(c.cell (p:=⟨b,0,none⟩) h1 hb).trans h3,(c.cell (p:=⟨b,1,none⟩) h1 hb).trans h4,(c.cell (p:=⟨b,2,none⟩) h1 hb).trans h5⟩
theorem Km.ext{w w':World}{b t:Nat}{s:ByteArray}{bad:Bool}(h:Km w b s t bad)(x:Ext w w'):Km w' b s t bad:=h.chg (x.chg (fun _=>False)) (fun h=>h)
def Ah(b:Nat)(s:ByteArray)(t:Nat)(bad:Bool)(w:World)(e:Ending)(w':World):Prop :=
 e=.returned (.int .i64 (Bc s.data.toList t bad).1)∧Km w' b s (Bc s.data.toList t bad).2.1 (Bc s.data.toList t bad).2.2∧Chg (· = b) w w'
theorem Qa(n lo hi:Int)(w:World):Calls prog 154 #[.int .i64 n,.int .i64 lo,.int .i64 hi] w fun e w'=>e=.returned (.bool (decide (lo≤n)&&decide (n≤hi)))∧w=w':=by
 by_cases h:lo≤n
 ·have hd:decide (lo≤n)=true:=by simpa using h
  go_enter func154,ntmps154;go_wp2;go_ret
  simp_all
 have hd:decide (lo≤n)=false:=by simpa using h
 go_enter func154,ntmps154;go_wp2;go_ret
 simp_all
theorem Km.move{w:World}{b t t':Nat}{s:ByteArray}{bad:Bool}(h:Km w b s t bad){n:Int}(hn:n=(t':Int)):Km (w.setCell ⟨b,1,none⟩ (.int .i64 n)) b s t' bad:=by
 subst hn;obtain⟨h1,h2,h3,h4,h5⟩:=h;exact⟨by simpa[World.setCell]using h1,fun i=>by go_simp,by go_simp,by go_simp,by go_simp⟩
theorem Km.turn{w:World}{b t:Nat}{s:ByteArray}{bad:Bool}(h:Km w b s t bad):Km (w.setCell ⟨b,2,none⟩ (.bool true)) b s t true:=by
 obtain⟨h1,h2,h3,h4,h5⟩:=h;exact⟨by simpa[World.setCell]using h1,fun i=>by go_simp,by go_simp,by go_simp,by go_simp⟩
theorem Km.drew{w:World}{b t:Nat}{s:ByteArray}{bad:Bool}(h:Km w b s t bad):Km w.drew b s t bad:=h
theorem Jn(b:Nat)(s:ByteArray)(t:Nat)(bad:Bool)(ht:t≤s.size)(hs:s.size≤140737488355328)(w:World)(hr:Km w b s t bad) :
 Calls prog 133 #[.pointer (some ⟨b,0,none⟩)] w (Ah b s t bad w):=by
 have Hr:=Y8 hr;obtain⟨hb,hf,h0,h1,h2⟩:=hr;cases bad
 ·rcases hg:Ii (s.data.toList.drop t)with _ | ⟨v,k⟩
  ·have Hn:=Y8 (show Bc s.data.toList t false=(0,t,true) by simp only[Bc,hg];rfl);have Hg:=Y8 hg;clear hg;go_enter func133,ntmps133;go_wp2_with fail;go_region_held3 (fun w'=>w'.cell? ⟨b,0,none⟩=some (.string s)∧w'.cell? ⟨b,1,none⟩=some (.int .i64 (t:Int))∧w'.cell? ⟨b,2,none⟩=some (.bool false)) (go_keep)
    (first|(go_at_call 168;refine(Zym Hg.o ht hs _).mono ?_;rintro e w1 ⟨c,hc,rfl,rfl⟩))
   go_wp2_with fail;go_ret;refine⟨by rw[Hn.o];rfl,?_,?_⟩
   ·rw[Hn.o];exact Hr.o.turn.drew
   exact((Chg.refl (· = b) w).setCell (p:=⟨b,2,none⟩) (.inl rfl) _).drew
  have Hn:=Y8 (show Bc s.data.toList t false=(v,t+k,false) by simp only[Bc,hg];rfl);have Hg:=Y8 hg;clear hg;go_enter func133,ntmps133;go_wp2_with fail;go_region_held3 (fun w'=>w'.cell? ⟨b,0,none⟩=some (.string s)∧w'.cell? ⟨b,1,none⟩=some (.int .i64 (t:Int))∧w'.cell? ⟨b,2,none⟩=some (.bool false)) (go_keep)
   (first|(go_at_call 168;refine(Zyl Hg.o ht hs _).mono ?_;rintro e w1 ⟨rfl,rfl⟩))
  go_wp2_with fail;go_ret;refine⟨by rw[Hn.o];rfl,?_,?_⟩
  ·rw[Hn.o];exact(Hr.o.move (by simp)).drew
  exact((Chg.refl (· = b) w).setCell (p:=⟨b,1,none⟩) (.inl rfl) _).drew
 go_enter func133,ntmps133;go_wp2_with fail;go_ret;exact⟨rfl,Hr.o,Chg.refl _ _⟩
def Li(b:Nat)(s:ByteArray)(t:Nat)(bad:Bool)(w:World)(e:Ending)(w':World):Prop :=
 e=.returned (.string (bs (Qz s.data.toList t bad).1))∧Km w' b s (Qz s.data.toList t bad).2.1 (Qz s.data.toList t bad).2.2∧Chg (· = b) w w'
theorem Ms(b:Nat)(s:ByteArray)(t:Nat)(bad:Bool)(ht:t≤s.size)(hs:s.size≤140737488355328)(w:World)(hr:Km w b s t bad) :
 Calls prog 132 #[.pointer (some ⟨b,0,none⟩)] w (Li b s t bad w):=by
 have hsl:s.data.toList.length=s.size:=rfl;obtain⟨n,t1,b1,hp⟩:∃ n t1 b1,Bc s.data.toList t bad=(n,t1,b1):=⟨_,_,_,rfl⟩;have hle:=Kc (s:=s.data.toList) (t:=t) (b:=bad) (by omega);have hbd:=Ow s.data.toList t bad;rw[hp]at hle hbd;simp only at hle hbd;have hnp:Ah b s t bad w=fun e w'=>e=.returned (.int .i64 n)∧Km w' b s t1 b1∧Chg (· = b) w w':=by unfold Ah;rw[hp]
 have Hp:=Y8 hp;have Hnum:=Y8 (hnp▸Jn b s t bad ht hs w hr);have hws:IntKind.i64.wrap ((s.size:Int)-(t1:Int))=(s.size:Int)-(t1:Int):=Yp _ (by omega);clear hp hnp hr;by_cases hb1:b1=true∨n<0∨(s.size-t1:Nat)<n
 ·have Ht:=Y8 (show Qz s.data.toList t bad=([],t1,true) by unfold Qz;rw[Hp.o];simp only;rw[hsl,Zgn hb1]);have Hend:=Y8 (show ∀ w' w2,Km w' b s t1 b1→Chg (· = b) w w'→w2=(w'.setCell ⟨b,2,none⟩ (.bool true)).drew→Li b s t bad w (.returned (.string ⟨#[]⟩)) w2 by
   rintro w' w2 h1 h2 rfl;refine⟨by rw[Ht.o];rfl,by rw[Ht.o];exact h1.turn.drew,(h2.setCell (p:=⟨b,2,none⟩) (.inl rfl) _).drew⟩)
  go_enter func132,ntmps132;go_wp2_with fail;refine Hnum.o.mono ?_;rintro e w1 ⟨rfl,hr1,hc1⟩;have HE:=Y8 (Hend.o w1 _ hr1 hc1 rfl);obtain⟨g1,g2,h0,h1,h2⟩:=hr1;clear Hend Hnum hc1;rcases b1 with _|_
  ·have hn:n<0∨(s.size-t1:Nat)<n:=by simpa using hb1
   have hwf:(decide (0≤n)&&decide (n≤(s.size:Int)-(t1:Int)))=false:=by rcases hn with h|h<;>simp<;>omega
   clear hb1;go_wp2_with fail;go_region_held3 (fun w'=>w'.cell? ⟨b,0,none⟩=some (.string s)∧w'.cell? ⟨b,1,none⟩=some (.int .i64 (t1:Int))∧w'.cell? ⟨b,2,none⟩=some (.bool false)) (go_keep)
    (first|(go_at_call 154;refine(Qa _ _ _ _).mono ?_;rintro e w2 ⟨rfl,rfl⟩;rw[hwf]))
   go_wp2_with fail;go_ret;exact HE.o
  clear hb1;go_wp2_with fail;go_region;go_wp2_with fail;go_ret;exact HE.o
 have hb2:b1=false:=by simpa using fun h=>hb1 (.inl h)
 subst hb2;have hn0:0≤n:=Int.not_lt.1 fun h=>hb1 (.inr (.inl h))
 have hn1:n≤(s.size-t1:Nat):=Int.not_lt.1 fun h=>hb1 (.inr (.inr h))
 have Ht:=Y8 (show Qz s.data.toList t bad=((s.data.toList.drop t1).take n.toNat,t1+n.toNat,false) by unfold Qz;rw[Hp.o];simp only;rw[hsl,Zgq hb1]);obtain⟨m,rfl⟩:∃ m:Nat,n=(m:Int):=⟨n.toNat,by omega⟩;have hm:t1+m≤s.size:=by omega
 have hex:s.extract t1 (t1+m)=bs ((s.data.toList.drop t1).take m):=by
  apply Zd2;rw[Zea];apply Zc9;rw[Ze9];show List.extract s.data.toList t1 (t1+m)=(s.data.toList.drop t1).take m;rw[Zeo];congr 1;omega
 rw[Zej]at Ht;have Hex:=Y8 hex;have hwf:(decide (0≤(m:Int))&&decide ((m:Int)≤(s.size:Int)-(t1:Int)))=true:=by simp;omega
 clear hb1 hex;go_enter func132,ntmps132;go_wp2_with fail;refine Hnum.o.mono ?_;rintro e w1 ⟨rfl,hr1,hc1⟩;have Hc1:=Y8 hc1;have Hr1:=Y8 hr1;obtain⟨g1,g2,h0,h1,h2⟩:=hr1;clear Hnum hc1;go_wp2_with fail;go_region_held3 (fun w'=>w'.cell? ⟨b,0,none⟩=some (.string s)∧w'.cell? ⟨b,1,none⟩=some (.int .i64 (t1:Int))∧w'.cell? ⟨b,2,none⟩=some (.bool false)) (go_keep)
  (first|(go_at_call 154;refine(Qa _ _ _ _).mono ?_;rintro e w2 ⟨rfl,rfl⟩;rw[hwf]))
 have hw3:wrap64 ((t1:Int)+(m:Int))=((t1+m:Nat):Int):=by unfold wrap64;omega
 have hw4:IntKind.i64.wrap (((t1+m:Nat):Int)-(m:Int))=(t1:Int):=by rw[Yp _ (by omega)];omega
 have q0:(0:Int)≤(t1:Int):=by omega
 have q1:(t1:Int)≤((t1+m:Nat):Int):=by omega
 have q2:((t1+m:Nat):Int)≤(s.size:Int):=by omega
 go_wp2_with fail;go_region;go_wp2_with fail;go_ret;refine⟨?_,by rw[Ht.o];exact(Hr1.o.move (by simp)).drew.drew,((Hc1.o.setCell (p:=⟨b,1,none⟩) (.inl rfl) _).drew).drew⟩;rw[Ht.o];show Ending.returned (.string (s.extract t1 (t1+m)))=_;rw[Hex.o]
def Oy(n:Nm):List Value:=[.string n.a,.string n.u,.string n.k]
def Wh:List Nm→List Value
 | []=>[]
 | n::r=>Oy n++Wh r
theorem Ly:∀ l:List Nm,(Wh l).length=l.length*3
 | []=>rfl
 | n::r=>by rw[Wh,Zs,Ly r];simp[Oy];omega
theorem Ks:∀ a b:List Nm,Wh (a++b)=Wh a++Wh b
 | [],_=>rfl
 | n::r,b=>by simp[Wh,Ks r b]
theorem Ox:∀ {l:List Nm} {j:Nat} {n:Nm},l[j]?=some n→(Wh l)[j*3]?=some (.string n.a)∧(Wh l)[j*3+1]?=some (.string n.u)∧(Wh l)[j*3+2]?=some (.string n.k)
 | m::r,0,n,h=>by
  simp only[Zx,Yc]at h;subst h;simp[Wh,Oy]
 | m::r,j+1,n,h=>by
  obtain⟨h1,h2,h3⟩:=Ox (l:=r) (j:=j) (n:=n) (by simpa using h);have hm:(Oy m).length=3:=rfl;have e:∀ k,(Wh (m::r))[(j+1)*3+k]?=(Wh r)[j*3+k]?:=fun k=>by
   rw[Wh,Zd (by omega),hm];congr 1;omega
  refine⟨?_,?_,?_⟩
  ·have:=e 0;simp only[Zfu]at this;rw[this,h1]
  ·rw[e 1,h2]
  rw[e 2,h3]
theorem Cu(l:List Nm):∀ u∈Wh l,u.oneCell'=true:=by
 induction l with
 | nil=>simp[Wh]
 | cons n r ih =>
  intro u hu;rw[Wh,Zj]at hu;rcases hu with hu|hu
  ·simp only[Oy,Zg,Zh,Zfi]at hu;rcases hu with rfl|rfl|rfl<;>rfl
  exact ih u hu
def Wo(w:World)(S:Nat→Prop)(v:Value)(l:List Nm):Prop:=Rd w S 3 v l.length (Wh l)
theorem Wo.get{w:World}{S:Nat→Prop}{v:Value}{l:List Nm}(h:Wo w S v l){j:Nat}(hj:j<l.length) :
 ∃ g o c,v=.slice (some ⟨g,o,none⟩) l.length c∧l.length≤c∧c≤maxLen∧S g∧g<w.heap.size∧∀ i n,l[i]?=some n→w.cell? ⟨g,o+i*3,none⟩=some (.string n.a)∧w.cell? ⟨g,o+i*3+1,none⟩=some (.string n.u)∧w.cell? ⟨g,o+i*3+2,none⟩=some (.string n.k):=by
 obtain⟨g,o,c,h1,h2,h3,h4,h5,h6⟩:=h.at_ hj;refine⟨g,o,c,h1,h2,h3,h4,h5,fun i n hi=>?_⟩;obtain⟨q1,q2,q3⟩:=Ox hi;exact⟨h6 _ _ q1,by rw[Zfh];exact h6 _ _ q2,by rw[Zfh];exact h6 _ _ q3⟩
theorem Wo.ext{w w':World}{S:Nat→Prop}{v:Value}{l:List Nm}(h:Wo w S v l)(x:Ext w w'):Wo w' S v l:=Rd.ext h x
theorem Wo.shape{w:World}{S:Nat→Prop}{v:Value}{l:List Nm}(h:Wo w S v l):∃ A c,v=.slice A l.length c:=by
 obtain⟨_,A,c,h,_⟩:=h;exact⟨A,c,h⟩
def J0(n:Nm):List UInt8:=n.k.data.toList
theorem O3:∀ l:List Nm,srt l=true↔∀ i a b,l[i]?=some a→l[i+1]?=some b→J0 a<J0 b
 | []=>by simp[srt]
 | [x]=>by simp[srt]
 | x::y::r=>by
  rw[srt,Zgc,Zgh,O3 (y::r)];constructor
  ·rintro⟨h1,h2⟩ i a b ha hb;cases i with
   | zero=>simp at ha hb;subst ha hb;exact h1
   | succ i=>exact h2 i a b (by simpa using ha) (by simpa using hb)
  intro h;exact⟨h 0 x y rfl rfl,fun i a b ha hb=>h (i+1) a b (by simpa using ha) (by simpa using hb)⟩
theorem Tz{x s:ByteArray}(h:s.data.toList<x.data.toList):Op.bytesLess x.toList s.toList=false∧(x.toList==s.toList)=false:=by
 rw[Go.Proofs.bytesLess_eq,Zg2,Zg2];exact⟨by simpa using List.le_of_lt h,by simp;intro e;rw[e]at h;exact Zfq _ h⟩
theorem Lb{x s:ByteArray}(h:¬ s.data.toList<x.data.toList):(Op.bytesLess x.toList s.toList||x.toList==s.toList)=true:=by
 rw[Go.Proofs.bytesLess_eq,Zg2,Zg2];by_cases e:x.data.toList=s.data.toList
 ·simp[e]
 have:=Ui (List.not_lt.1 h) e;simp[this]
theorem Fi{S:Nat→Prop}(v:Value)(l:List Nm)(w:World)(hn:Wo w S v l) :
 Calls prog 155 #[v] w fun e w'=>e=.returned (.bool (srt l))∧Ext w w':=by
 obtain⟨A,c,rfl⟩:=hn.shape;have hlm:=hn.len;unfold maxLen at hlm;have Hn:=Y8 hn;clear hn;go_enter func155,ntmps155;go_wp2_with fail;go_loopw [3] (fun o wr=>∃ i:Nat,1≤i∧o=.int .i64 (i:Int)∧(∀ j a b,j+1<i→l[j]?=some a→l[j+1]?=some b→J0 a<J0 b)∧(i=1∨i≤l.length)∧Ext w wr) (fun o _=>l.length+1-(intOf o).toNat);case atStart=>exact⟨1,Ym _,rfl,fun j a b h=>by omega,.inl rfl,Yk _⟩
 obtain⟨i,hi,rfl,hso,hil,hx⟩:=hrel;have Hso:=Y8 hso;have Hx:=Y8 hx;clear hso hx;by_cases hlt:i<l.length
 ·have hd:decide ((i:Int)<(l.length:Int))=true:=by simpa using hlt
  obtain⟨g,o,c',hv,hc1,hc2,_,hg,hcell⟩:=(Hn.o.ext Hx.o).get (j:=i) hlt;simp only[Yd,Zg0]at hv;obtain⟨rfl,rfl⟩:=hv;obtain⟨a,ha⟩:∃ a,l[i-1]?=some a:=⟨l[i-1],by simp⟩;obtain⟨b,hb⟩:∃ b,l[i]?=some b:=⟨l[i],by simp[hlt]⟩;have c1:=(hcell _ _ ha).2.2;have c2:=(hcell _ _ hb).2.2;obtain⟨p,rfl⟩:∃ p,i=p+1:=⟨i-1,by omega⟩;simp only[Zdq]at ha c1;have q0:(0:Int)≤(p:Int):=by omega
  have q1:(p:Int)<(l.length:Int):=by omega
  have q2:(0:Int)≤((p+1:Nat):Int):=by omega
  have q3:((p+1:Nat):Int)<(l.length:Int):=by omega
  have q4:IntKind.i64.wrap (((p+1:Nat):Int)-1)=(p:Int):=by rw[Yp _ (by omega)];omega
  have q5:c≤9223372036854775807:=by unfold maxLen at hc2;omega
  have Ha:=Y8 ha;have Hb:=Y8 hb;clear hcell ha hb;by_cases hk:J0 a<J0 b
  ·obtain⟨f1,f2⟩:=Tz hk;have Hk:=Y8 hk;clear hk;go_wp2_with fail;go_region;go_wp2_with fail;go_roundw;case rel =>
    refine⟨p+2,by omega,by go_num,fun j x y hj hx hy=>?_,by omega,Hx.o.drew⟩;by_cases hj2:j=p
    ·subst hj2;rw[Ha.o]at hx;rw[Hb.o]at hy;simp only[Yc]at hx hy;subst hx hy;exact Hk.o
    exact Hso.o j x y (by omega) hx hy
   case measure=>simp[intOf];omega
  have f1:=Lb hk;have Hno:=Y8 (show srt l=false from by
   rw[← Zd1,O3];intro h;exact hk (h p a b Ha.o Hb.o))
  clear hk;go_wp2_with fail;go_region;go_wp2_with fail;go_ret;exact⟨by rw[Hno.o];rfl,Hx.o.drew⟩
 have hd:decide ((i:Int)<(l.length:Int))=false:=by simp;omega
 have Hall:=Y8 (show srt l=true from(O3 l).2 fun j a b ha hb=>Hso.o j a b (by have:=(Zr.1 hb).1;omega) ha hb);go_wp2_with fail;go_ret;exact⟨by rw[Hall.o];rfl,Hx.o⟩
theorem Zxp{S:Nat→Prop}(v:Value)(l:List Nm)(w:World)(hn:Wo w S v l) :
 Calls prog 82 #[v] w fun e w'=>e=.returned (.bool (srt l))∧Ext w w':=by
 obtain⟨A,c,rfl⟩:=hn.shape;have hlm:=hn.len;unfold maxLen at hlm;have Hn:=Y8 hn;clear hn;go_enter func82,ntmps82;go_wp2_with fail;go_loopw [3] (fun o wr=>∃ i:Nat,1≤i∧o=.int .i64 (i:Int)∧(∀ j a b,j+1<i→l[j]?=some a→l[j+1]?=some b→J0 a<J0 b)∧(i=1∨i≤l.length)∧Ext w wr) (fun o _=>l.length+1-(intOf o).toNat);case atStart=>exact⟨1,Ym _,rfl,fun j a b h=>by omega,.inl rfl,Yk _⟩
 obtain⟨i,hi,rfl,hso,hil,hx⟩:=hrel;have Hso:=Y8 hso;have Hx:=Y8 hx;clear hso hx;by_cases hlt:i<l.length
 ·have hd:decide ((i:Int)<(l.length:Int))=true:=by simpa using hlt
  obtain⟨g,o,c',hv,hc1,hc2,_,hg,hcell⟩:=(Hn.o.ext Hx.o).get (j:=i) hlt;simp only[Yd,Zg0]at hv;obtain⟨rfl,rfl⟩:=hv;obtain⟨a,ha⟩:∃ a,l[i-1]?=some a:=⟨l[i-1],by simp⟩;obtain⟨b,hb⟩:∃ b,l[i]?=some b:=⟨l[i],by simp[hlt]⟩;have c1:=(hcell _ _ ha).2.2;have c2:=(hcell _ _ hb).2.2;obtain⟨p,rfl⟩:∃ p,i=p+1:=⟨i-1,by omega⟩;simp only[Zdq]at ha c1;have q0:(0:Int)≤(p:Int):=by omega
  have q1:(p:Int)<(l.length:Int):=by omega
  have q2:(0:Int)≤((p+1:Nat):Int):=by omega
  have q3:((p+1:Nat):Int)<(l.length:Int):=by omega
  have q4:IntKind.i64.wrap (((p+1:Nat):Int)-1)=(p:Int):=by rw[Yp _ (by omega)];omega
  have q5:c≤9223372036854775807:=by unfold maxLen at hc2;omega
  have Ha:=Y8 ha;have Hb:=Y8 hb;clear hcell ha hb;by_cases hk:J0 a<J0 b
  ·obtain⟨f1,f2⟩:=Tz hk;have Hk:=Y8 hk;clear hk;go_wp2_with fail;go_region;go_wp2_with fail;go_roundw;case rel =>
    refine⟨p+2,by omega,by go_num,fun j x y hj hx hy=>?_,by omega,Hx.o.drew⟩;by_cases hj2:j=p
    ·subst hj2;rw[Ha.o]at hx;rw[Hb.o]at hy;simp only[Yc]at hx hy;subst hx hy;exact Hk.o
    exact Hso.o j x y (by omega) hx hy
   case measure=>simp[intOf];omega
  have f1:=Lb hk;have Hno:=Y8 (show srt l=false from by
   rw[← Zd1,O3];intro h;exact hk (h p a b Ha.o Hb.o))
  clear hk;go_wp2_with fail;go_region;go_wp2_with fail;go_ret;exact⟨by rw[Hno.o];rfl,Hx.o.drew⟩
 have hd:decide ((i:Int)<(l.length:Int))=false:=by simp;omega
 have Hall:=Y8 (show srt l=true from(O3 l).2 fun j a b ha hb=>Hso.o j a b (by have:=(Zr.1 hb).1;omega) ha hb);go_wp2_with fail;go_ret;exact⟨by rw[Hall.o];rfl,Hx.o⟩
def Gn(e:Ent)(v:Value):Value:=.agg #[.int .i64 e.cl,.int .i64 e.op,.int .i64 e.ttl,.int .i64 e.tick,v]
theorem Uf{e:Ent}(h:Qn e=true):0≤e.cl∧e.cl≤63∧1≤e.op∧e.op≤6∧(if Xh e.op then decide (1≤e.ttl)&&decide (e.ttl≤1073741824)else e.ttl==0)=true∧0≤e.tick∧e.tick≤1073741824∧1≤e.names.length∧e.names.length≤16:=by
 simp only[Qn,Zgc,Zgh]at h;obtain⟨⟨⟨⟨⟨⟨⟨⟨a1,a2⟩,a3⟩,a4⟩,a5⟩,a6⟩,a7⟩,a8⟩,a9⟩:=h;exact⟨a1,a2,a3,a4,a5,a6,a7,a8,a9⟩
theorem Ei{e:Ent}(h:Qn e=true):(e.op=1∧1≤e.ttl∧e.ttl≤1073741824)∨(e.op=3∧1≤e.ttl∧e.ttl≤1073741824)∨(e.op≠1∧e.op≠3∧e.ttl=0):=by
 obtain⟨_,_,_,_,h5,_⟩:=Uf h;by_cases h1:e.op=1
 ·simp[h1,Xh]at h5;exact .inl ⟨h1,h5⟩
 by_cases h3:e.op=3
 ·simp[h3,Xh]at h5;exact .inr (.inl ⟨h3,h5⟩)
 simp[h1,h3,Xh]at h5;exact .inr (.inr ⟨h1,h3,h5⟩)
theorem P6{S:Nat→Prop}(e:Ent)(v:Value)(w:World)(hn:Wo w S v e.names) :
 Calls prog 117 #[Gn e v] w fun x w'=>x=.returned (.int .i64 (Vn e))∧Ext w w':=by
 obtain⟨A,c,rfl⟩:=hn.shape;have hlm:=hn.len;unfold maxLen at hlm;cases hr:Qn e with
 | false =>
  have Hck:=Y8 (show Vn e=3 by unfold Vn;rw[hr];rfl);have Hr:=Y8 hr;obtain⟨cl,op,ttl,tick,names⟩:=e;simp only at hn hlm;clear hn hr;unfold Gn;go_enter func117,ntmps117;go_wp2_with (go_at_call 154;refine(Qa _ _ _ _).mono ?_;rintro e' w' ⟨rfl,rfl⟩);all_goals first
   | (go_ret;exact⟨by rw[Hck.o];rfl,xE⟩)
   | (exfalso;have hf:=Hr.o;simp_all [Qn,Xh];done)
   | (exfalso;have hf:=Hr.o;simp_all [Qn,Xh];omega)
 | true =>
  obtain⟨a1,a2,a3,a4,_,a6,a7,a8,a9⟩:=Uf hr;have htm:=Ei hr;have Hck:=Y8 (show Vn e=if srt e.names then(if e.names.all Jt then 0 else 1)else 1 by unfold Vn;rw[hr];cases srt e.names<;>simp);have Hn:=Y8 hn;obtain⟨cl,op,ttl,tick,names⟩:=e;simp only at a1 a2 a3 a4 a6 a7 a8 a9 htm Hn Hck hlm;have c8:(1:Int)≤(names.length:Int):=by omega
  have c9:(names.length:Int)≤16:=by omega
  have Hx0:=Y8 ((Yk w).alloc (.cells #[.int .i64 cl,.int .i64 op,.int .i64 ttl,.int .i64 tick,.slice A names.length c] 83));have k4:(w.alloc (.cells #[.int .i64 cl,.int .i64 op,.int .i64 ttl,.int .i64 tick,.slice A names.length c] 83)).cell? ⟨w.heap.size,4,none⟩=some (.slice A names.length c):=by go_simp
  have kl:w.heap.size<(w.alloc (.cells #[.int .i64 cl,.int .i64 op,.int .i64 ttl,.int .i64 tick,.slice A names.length c] 83)).heap.size:=by simp
  have Hk4:=Y8 k4;unfold Gn;clear hn hr k4;go_enter func117,ntmps117;rcases htm with⟨rfl,b1,b2⟩ | ⟨rfl,b1,b2⟩ | ⟨b1,b2,rfl⟩;all_goals
   go_wp2_with (go_at_call 154;refine(Qa _ _ _ _).mono ?_;rintro e' w' ⟨rfl,rfl⟩);refine(Fi _ _ _ (Hn.o.ext Hx0.o)).mono ?_;rintro x w2 ⟨rfl,hx2⟩;have k4:=(hx2.cell (p:=⟨w.heap.size,4,none⟩) kl).trans Hk4.o;have Hx2:=Y8 (Hx0.o.trans hx2);cases hs:srt names with
   | false =>
    have Hs:=Y8 hs;clear hs hx2;go_wp2_with fail;go_ret;exact⟨by rw[Hck.o,Hs.o];rfl,Hx2.o⟩
   | true =>
    have Hs:=Y8 hs;have hb:w.heap.size<w2.heap.size:=Zgp kl hx2.size;clear hs hx2 Hx0 Hk4;go_wp2_with fail;go_loopw [62] (fun o wr=>∃ i:Nat,i≤names.length∧o=.int .i64 (i:Int)∧(∀ j n,j<i→names[j]?=some n→Jt n=true)∧Ext w wr) (fun o _=>names.length-(intOf o).toNat);case atStart=>exact⟨0,by omega,rfl,fun j n h=>by omega,Hx2.o⟩
    obtain⟨i,hil,rfl,hall,hx⟩:=hrel;have Hall:=Y8 hall;have Hx:=Y8 hx;clear hall hx;by_cases hlt:i<names.length
    ·have hd:decide ((i:Int)<(names.length:Int))=true:=by simpa using hlt
     obtain⟨g,o,c',hv,hc1,hc2,_,hg,hcell⟩:=(Hn.o.ext Hx.o).get (j:=i) hlt;simp only[Yd,Zg0]at hv;obtain⟨rfl,rfl⟩:=hv;obtain⟨n,hnm⟩:∃ n,names[i]?=some n:=⟨names[i],by simp[hlt]⟩;obtain⟨c0,c1,c2⟩:=hcell _ _ hnm;have q0:(0:Int)≤(i:Int):=by omega
     have q1:(i:Int)<(names.length:Int):=by omega
     have q5:c≤9223372036854775807:=by unfold maxLen at hc2;omega
     have Hnm:=Y8 hnm;clear hcell hnm;cases hb:Jt n with
     | true =>
      have hw1:1≤n.a.size∧n.a.size≤63:=by simpa[Jt]using hb
      obtain⟨hw1,hw2⟩:=hw1;have hw3:(1:Int)≤(n.a.size:Int):=by omega
      have hw4:(n.a.size:Int)≤63:=by omega
      have Hb:=Y8 hb;clear hb;go_wp2_with (go_at_call 154;refine(Qa _ _ _ _).mono ?_;rintro e' w' ⟨rfl,rfl⟩);go_roundw;case rel =>
       refine⟨i+1,by omega,by go_num,fun j m hj hm=>?_,Hx.o.alloc _⟩;by_cases hji:j=i
       ·subst hji;rw[Hnm.o]at hm;simp only[Yc]at hm;subst hm;exact Hb.o
       exact Hall.o j m (by omega) hm
      case measure=>simp[intOf];omega
     | false =>
      have hw1:n.a.size<1∨63<n.a.size:=by simp[Jt]at hb;omega
      have Hno:=Y8 (show names.all Jt=false by
       rw[← Zd1,Zfl];intro h;have:=h n (Zy Hnm.o);rw[hb]at this;simp at this)
      clear hb;have hw2:(decide ((1:Int)≤(n.a.size:Int))&&decide ((n.a.size:Int)≤63))=false:=by rcases hw1 with h|h<;>simp<;>omega
      go_wp2_with (go_at_call 154;refine(Qa _ _ _ _).mono ?_;rintro e' w' ⟨rfl,rfl⟩;rw[hw2]);go_ret;exact⟨by rw[Hck.o,Hs.o,Hno.o];rfl,Hx.o.alloc _⟩
    have hd:decide ((i:Int)<(names.length:Int))=false:=by simp;omega
    have Hyes:=Y8 (show names.all Jt=true from Zfl.2 fun n hn=>by
     obtain⟨j,hj⟩:=Zgd hn;exact Hall.o j n (by have:=(Zr.1 hj).1;omega) hj)
    go_wp2_with fail;go_ret;exact⟨by rw[Hck.o,Hs.o,Hyes.o];rfl,Hx.o⟩
theorem Nq(s:ByteArray):s.size≤(item s.data.toList).length:=by
 rw[item,Zs];show s.data.toList.length≤_;omega
def Du(e:Ent):List Int:=[e.cl,e.op,e.ttl,e.tick,(e.names.length:Nat)]
def headB(e:Ent)(k:Nat):List UInt8:=((Du e).take k).flatMap code
theorem Zre(e:Ent):headB e 5=Wf e:=by simp[headB,Du,Wf]
theorem Ru{e:Ent}{k:Nat}{v:Int}(h:(Du e)[k]?=some v):headB e (k+1)=headB e k++code v:=by
 unfold headB;rw[Za,h];simp
theorem Ie{e:Ent}(hr:Qn e=true):∀ v∈Du e,I64 v:=by
 obtain⟨a1,a2,a3,a4,_,a6,a7,a8,a9⟩:=Uf hr;have ht:I64 e.ttl:=by
  rcases Ei hr with⟨_,b1,b2⟩ | ⟨_,b1,b2⟩ | ⟨_,_,b⟩
  ·exact⟨by omega,by omega⟩
  ·exact⟨by omega,by omega⟩
  rw[b];exact⟨by omega,by omega⟩
 intro v hv;simp only[Du,Zg,Zh,Zfi]at hv;rcases hv with rfl|rfl|rfl|rfl|rfl
 ·exact⟨by omega,by omega⟩
 ·exact⟨by omega,by omega⟩
 ·exact ht
 ·exact⟨by omega,by omega⟩
 exact⟨by omega,by omega⟩
theorem Ig{e:Ent}(hr:Qn e=true):∀ k,k≤5→(headB e k).length≤10*k
 | 0,_=>by simp[headB]
 | k+1,hk=>by
  obtain⟨v,hv⟩:=geX (l:=(Du e)) (i:=k) (by simp[Du];omega);have h1:=Ig hr k (by omega);obtain⟨b1,b2⟩:=Ie hr v (Zy hv);have h2:=Vj b1 b2;rw[Ru hv,Zs];omega
theorem Zls{e:Ent}(h:Vn e=0):Qn e=true:=by
 cases hr:Qn e with
 | true=>rfl
 | false=>unfold Vn at h;rw[hr]at h;simp at h
def Ky(e:Ent)(i:Nat):List UInt8:=Wf e++Xo (e.names.take i)
theorem Mk{e:Ent}{i:Nat}{n:Nm}(h:e.names[i]?=some n):Ky e (i+1)=Ky e i++Vs n:=by
 unfold Ky;rw[Za,h,Jp];simp[Xo]
theorem Zvg(e:Ent):Ky e e.names.length=Vx e:=by simp[Ky,Vx]
theorem Zsg(e:Ent)(i:Nat):(Ky e i).length≤(Vx e).length:=by
 have h:e.names.take i++e.names.drop i=e.names:=Zdc _ _;have:Vx e=Ky e i++Xo (e.names.drop i):=by
  unfold Vx Ky;rw[Zek,← Jp,h]
 rw[this,Zs];omega
theorem Zjh{e:Ent}(h:Vn e≠0):Kv e=(Vn e,[]):=by unfold Kv;rw[Zgn h]
theorem Zww{e:Ent}(h:Vn e=0)(h2:4096<(Vx e).length):Kv e=(7,[]):=by unfold Kv;rw[Zgq (by simp[h]),Zgn h2]
theorem Zs7{e:Ent}(h:Vn e=0)(h2:¬ 4096<(Vx e).length):Kv e=(0,Bb (Vx e)):=by unfold Kv;rw[Zgq (by simp[h]),Zgq h2]
theorem Dp(b s:ByteArray)(hb:b.size+s.size+20≤140737488355328)(w:World) :
 Calls prog 119 #[.string b,.string s] w fun e w'=>e=.returned (.string (b++bs (item s.data.toList)))∧Ext w w':=by
 have hc:=Vj (v:=(s.size:Int)) (by omega) (by omega);have hbs:=Js (code (s.size:Int));have hfin:(b++bs (code (s.size:Int)))++s=b++bs (item s.data.toList):=by
  rw[item,K9,Zyb,ByteArray.append_assoc];rfl
 obtain⟨b1,hb1⟩:=gnX (b++bs (code (s.size:Int)));have hb1s:b1.size=b.size+(code (s.size:Int)).length:=by rw[← hb1,Yl,hbs]
 have hno:¬ 9223372036854775807<b1.size+s.size:=by omega
 have Hb1:=Y8 hb1;rw[hb1]at hfin;have Hfin:=Y8 hfin;clear hb1 hfin hbs;go_enter func119,ntmps119;go_wp2_with (go_at_call 118;refine(Fm b (s.size:Int) ⟨by omega,by omega⟩ (by omega) _).mono ?_;rintro e w1 ⟨rfl,hx⟩;rw[Hb1.o]);go_ret;exact⟨by rw[← Hfin.o];rfl,hx⟩
theorem M9{S:Nat→Prop}(e:Ent)(v:Value)(w:World)(hn:Wo w S v e.names)(hsz:(Vx e).length+100≤140737488355328) :
 Calls prog 81 #[Gn e v] w fun x w'=>x=.returned (.tuple #[.string (bs (Kv e).2),.int .i64 (Kv e).1])∧Ext w w':=by
 obtain⟨A,c,rfl⟩:=hn.shape;have hlm:=hn.len;unfold maxLen at hlm;have Hn:=Y8 hn;have hx0:Ext w (w.alloc (.cells #[.int .i64 e.cl,.int .i64 e.op,.int .i64 e.ttl,.int .i64 e.tick,.slice A e.names.length c] 83)):=(Yk w).alloc _;have kl:w.heap.size<(w.alloc (.cells #[.int .i64 e.cl,.int .i64 e.op,.int .i64 e.ttl,.int .i64 e.tick,.slice A e.names.length c] 83)).heap.size:=by simp
 have k0:(w.alloc (.cells #[.int .i64 e.cl,.int .i64 e.op,.int .i64 e.ttl,.int .i64 e.tick,.slice A e.names.length c] 83)).cell? ⟨w.heap.size,0,none⟩=some (.int .i64 e.cl):=by go_simp
 have k1:(w.alloc (.cells #[.int .i64 e.cl,.int .i64 e.op,.int .i64 e.ttl,.int .i64 e.tick,.slice A e.names.length c] 83)).cell? ⟨w.heap.size,1,none⟩=some (.int .i64 e.op):=by go_simp
 have k2:(w.alloc (.cells #[.int .i64 e.cl,.int .i64 e.op,.int .i64 e.ttl,.int .i64 e.tick,.slice A e.names.length c] 83)).cell? ⟨w.heap.size,2,none⟩=some (.int .i64 e.ttl):=by go_simp
 have k3:(w.alloc (.cells #[.int .i64 e.cl,.int .i64 e.op,.int .i64 e.ttl,.int .i64 e.tick,.slice A e.names.length c] 83)).cell? ⟨w.heap.size,3,none⟩=some (.int .i64 e.tick):=by go_simp
 have k4:(w.alloc (.cells #[.int .i64 e.cl,.int .i64 e.op,.int .i64 e.ttl,.int .i64 e.tick,.slice A e.names.length c] 83)).cell? ⟨w.heap.size,4,none⟩=some (.slice A e.names.length c):=by go_simp
 have Hx0:=Y8 hx0;have Hk:=Y8 (And.intro k0 (And.intro k1 (And.intro k2 (And.intro k3 k4))));clear hn k0 k1 k2 k3 k4 hx0;obtain⟨w0,hw0⟩:=gnX (w.alloc (.cells #[.int .i64 e.cl,.int .i64 e.op,.int .i64 e.ttl,.int .i64 e.tick,.slice A e.names.length c] 83));obtain⟨eb,heb⟩:=gnX (w.heap.size);rw[hw0]at kl Hx0 Hk;rw[heb]at kl Hk;have Hn0:=Y8 (Hn.o.ext Hx0.o);by_cases hck:Vn e=0
 ·have hr:=Zls hck;have Hck:=Y8 hck;have Hr:=Y8 hr;obtain⟨p0,p1,p2,p3,p4⟩:=Hk.o;unfold Gn;clear hck hr;go_enter func81,ntmps81;go_wp2_with fail;refine(P6 e _ _ Hn0.o).mono ?_;rintro x w1 ⟨rfl,hx1⟩;rw[Hck.o];have q0:=(hx1.cell (p:=⟨eb,0,none⟩) kl).trans p0;have q1:=(hx1.cell (p:=⟨eb,1,none⟩) kl).trans p1;have q2:=(hx1.cell (p:=⟨eb,2,none⟩) kl).trans p2;have q3:=(hx1.cell (p:=⟨eb,3,none⟩) kl).trans p3;have q4:=(hx1.cell (p:=⟨eb,4,none⟩) kl).trans p4;have kl1:=Zgp kl hx1.size;have Hx1:=Y8 (Hx0.o.trans hx1);have Hn1:=Y8 (Hn0.o.ext hx1);clear hx1 p0 p1 p2 p3 p4 hw0 Hk Hx0 Hn0;go_wp2_with fail;have hcs:∀ k hv,(Du e)[k]?=some hv→(w1.alloc (.cells #[.int .i64 e.cl,.int .i64 e.op,.int .i64 e.ttl,.int .i64 e.tick,.int .i64 (e.names.length:Nat)] 3)).cell? ⟨w1.heap.size,k,none⟩=some (.int .i64 hv):=fun k hv h=>by
   have hk5:k<5:=by have:=(Zr.1 h).1;simpa[Du]using this
   rcases(show k=0∨k=1∨k=2∨k=3∨k=4 by omega)with rfl|rfl|rfl|rfl|rfl<;>simp[Du]at h<;>subst h<;>go_simp
  have hxa:Ext w1 (w1.alloc (.cells #[.int .i64 e.cl,.int .i64 e.op,.int .i64 e.ttl,.int .i64 e.tick,.int .i64 (e.names.length:Nat)] 3)):=(Yk w1).alloc _;have hbl:w1.heap.size<(w1.alloc (.cells #[.int .i64 e.cl,.int .i64 e.op,.int .i64 e.ttl,.int .i64 e.tick,.int .i64 (e.names.length:Nat)] 3)).heap.size:=by simp
  have Hcs:=Y8 hcs;have Hxa:=Y8 hxa;clear hcs hxa;go_loopw [5,28] (fun o i wr=>∃ k:Nat,k≤5∧i=.int .i64 (k:Int)∧o=.string (bs (headB e k))∧Ext w wr∧Ext (w1.alloc (.cells #[.int .i64 e.cl,.int .i64 e.op,.int .i64 e.ttl,.int .i64 e.tick,.int .i64 (e.names.length:Nat)] 3)) wr) (fun _ i _=>5-(intOf i).toNat);case atStart=>exact⟨0,by omega,rfl,rfl,Hx1.o.trans Hxa.o,Yk _⟩
  obtain⟨k,hk5,rfl,rfl,hxr,hxq⟩:=hrel;have Hxr:=Y8 hxr;have Hxq:=Y8 hxq;clear hxr hxq;by_cases hk:k<5
  ·have hd:decide ((k:Int)<5)=true:=by simp;omega
   obtain⟨hv,hhv⟩:=geX (l:=(Du e)) (i:=k) (by simp[Du];omega);have Hi:=Y8 (Ie Hr.o hv (Zy hhv));have hln:=Ig Hr.o k (by omega);have Hstep:=Y8 (show bs (headB e k)++bs (code hv)=bs (headB e (k+1)) by rw[Ru hhv,K9]);have hbsz:=Js (headB e k);have hcell:=(Hxq.o.cell (p:=⟨w1.heap.size,k,none⟩) hbl).trans (Hcs.o k hv hhv);have r0:(0:Int)≤(k:Int):=by omega
   have r1:(k:Int)<5:=by omega
   clear hhv;go_wp2_with fail;refine(Fm (bs (headB e k)) hv Hi.o (by rw[hbsz];omega) _).mono ?_;rintro x w3 ⟨rfl,hx3⟩;rw[Hstep.o];have X3:=Y8 (Hxr.o.trans hx3);have Q3:=Y8 (Hxq.o.trans hx3);clear hx3;go_wp2_with fail;go_roundw;case rel=>exact⟨k+1,by omega,by go_num,rfl,X3.o,Q3.o⟩
   simp[intOf];omega
  have hke:k=5:=by omega
  have hd:decide ((k:Int)<5)=false:=by simp;omega
  have q4:=(Hxq.o.cell (p:=⟨eb,4,none⟩) (Zgp kl1 Hxa.o.size)).trans ((Hxa.o.cell (p:=⟨eb,4,none⟩) kl1).trans q4);clear Hxq;have Hxe:=Y8 Hxr.o;clear Hxr;have Hb0:=Y8 (show bs (headB e k)=bs (Ky e 0) by rw[hke,Zre];simp[Ky,Xo]);rw[Hb0.o];clear Hb0 hke;go_wp2_with fail;go_loopw [5,39] (fun o i wr=>∃ k:Nat,k≤e.names.length∧i=.int .i64 (k:Int)∧o=.string (bs (Ky e k))∧Ext w wr) (fun _ i _=>e.names.length-(intOf i).toNat);case atStart=>exact⟨0,by omega,rfl,rfl,Hxe.o⟩
  clear Hxe;obtain⟨i,hil,rfl,rfl,hxr⟩:=hrel;have Hxr:=Y8 hxr;clear hxr;by_cases hlt:i<e.names.length
  ·have hd2:decide ((i:Int)<(e.names.length:Int))=true:=by simpa using hlt
   obtain⟨g,o,c',hv,hc1,hc2,_,hg,hcell⟩:=(Hn.o.ext Hxr.o).get (j:=i) hlt;simp only[Yd,Zg0]at hv;obtain⟨rfl,rfl⟩:=hv;obtain⟨n,hnm⟩:∃ n,e.names[i]?=some n:=⟨e.names[i],by simp[hlt]⟩;obtain⟨c0,c1,c2⟩:=hcell _ _ hnm;have hle:=Zsg e (i+1);rw[Mk hnm,Zs,Vs,Zs,Zs]at hle;have sa:=Nq n.a;have su:=Nq n.u;have sk:=Nq n.k;have hstep:=Y8 (show((bs (Ky e i)++bs (item n.a.data.toList))++bs (item n.u.data.toList))++bs (item n.k.data.toList)=bs (Ky e (i+1)) by rw[Mk hnm,Vs];simp only[K9,ByteArray.append_assoc]);obtain⟨b0,hb0⟩:=gnX (bs (Ky e i));obtain⟨b1,hb1⟩:=gnX (b0++bs (item n.a.data.toList));obtain⟨b2,hb2⟩:=gnX (b1++bs (item n.u.data.toList));obtain⟨b3,hb3⟩:=gnX (b2++bs (item n.k.data.toList));have z0:b0.size=(Ky e i).length:=by rw[← hb0,Js]
   have z1:b1.size=b0.size+(item n.a.data.toList).length:=by rw[← hb1,Yl,Js]
   have z2:b2.size=b1.size+(item n.u.data.toList).length:=by rw[← hb2,Yl,Js]
   rw[hb0,hb1,hb2,hb3]at hstep;rw[hb0];have T1:=Y8 (fun w'=>Dp b0 n.a (by omega) w');have T2:=Y8 (fun w'=>Dp b1 n.u (by omega) w');have T3:=Y8 (fun w'=>Dp b2 n.k (by omega) w');rw[hb1]at T1;rw[hb2]at T2;rw[hb3]at T3;have r0:(0:Int)≤(i:Int):=by omega
   have r1:(i:Int)<(e.names.length:Int):=by omega
   have r2:c≤9223372036854775807:=by unfold maxLen at hc2;omega
   obtain⟨nb,hnb⟩:=gnX (wr.heap.size);have Hxa:=Y8 (Hxr.o.alloc (.cells #[.string n.a,.string n.u,.string n.k] 109));have m0:(wr.alloc (.cells #[.string n.a,.string n.u,.string n.k] 109)).cell? ⟨nb,0,none⟩=some (.string n.a):=by rw[← hnb];go_simp
   have m1:(wr.alloc (.cells #[.string n.a,.string n.u,.string n.k] 109)).cell? ⟨nb,1,none⟩=some (.string n.u):=by rw[← hnb];go_simp
   have m2:(wr.alloc (.cells #[.string n.a,.string n.u,.string n.k] 109)).cell? ⟨nb,2,none⟩=some (.string n.k):=by rw[← hnb];go_simp
   have ml:nb<(wr.alloc (.cells #[.string n.a,.string n.u,.string n.k] 109)).heap.size:=by rw[← hnb];simp
   clear hcell hnm hb0 hb1 hb2 hb3 z0 z1 z2 sa su sk hle;go_wp2_with fail;have mm0:∀ k os,(later (wr.alloc (.cells #[.string n.a,.string n.u,.string n.k] 109)) k os).cell? ⟨nb,0,none⟩=some (.string n.a):=fun k os=>(J6 _ k os nb 0 ml).trans m0
   have mm1:∀ k os,(later (wr.alloc (.cells #[.string n.a,.string n.u,.string n.k] 109)) k os).cell? ⟨nb,1,none⟩=some (.string n.u):=fun k os=>(J6 _ k os nb 1 ml).trans m1
   have mm2:∀ k os,(later (wr.alloc (.cells #[.string n.a,.string n.u,.string n.k] 109)) k os).cell? ⟨nb,2,none⟩=some (.string n.k):=fun k os=>(J6 _ k os nb 2 ml).trans m2
   refine wreX ?_;repeat(quiet_step (first|(go_at_call 119;with_reducible exact Xx (T1.o _))|(go_at_call 119;with_reducible exact Xx (T2.o _))|(go_at_call 119;with_reducible exact Xx (T3.o _))))
   refine Yt ?_;intro w1 hy;have X6:=Y8 (Hxa.o.trans hy);clear hy;go_wp2_with fail;go_roundw;case rel=>exact⟨i+1,by omega,by go_num,by rw[hstep.o],X6.o⟩
   simp[intOf];omega
  have hie:i=e.names.length:=by omega
  subst hie;have hd2:decide ((e.names.length:Int)<(e.names.length:Int))=false:=by simp
  rw[Zvg];have hbs:=Js (Vx e);have Hsum:=Y8 (Zle (bs (Vx e)));have hsb:=Tn (bs (Vx e));obtain⟨bd,hbd⟩:=gnX (bs (Vx e));rw[hbd]at hbs hsb;rw[hbd];have Hbd:=Y8 hbd;clear hbd;by_cases hbig:4096<(Vx e).length
  ·have hd3:decide (4096<(bd.size:Int))=true:=by simp;omega
   have hd4:4096<bd.size:=by omega
   have Hfull:=Y8 (Zww Hck.o hbig);clear hbig;go_wp2_with fail;go_ret2;exact⟨by rw[Hfull.o];rfl,Hxr.o⟩
  have hd3:decide (4096<(bd.size:Int))=false:=by simp;omega
  have hd4:¬ 4096<bd.size:=by omega
  have Hok:=Y8 (Zs7 Hck.o hbig);have hem:(⟨#[]⟩:ByteArray).size=0:=rfl;have Ht:=Y8 (fun w'=>Dp ⟨#[]⟩ bd (by omega) w');have hib:=Vj (v:=((bd.data.toList.length:Nat):Int)) (by omega) (by have:bd.data.toList.length=bd.size:=rfl;omega);obtain⟨b1,hb1⟩:=gnX ((⟨#[]⟩:ByteArray)++bs (item bd.data.toList));have z1:b1.size≤bd.size+10:=by
   have:bd.data.toList.length=bd.size:=rfl;rw[← hb1,Yl,Js,item,Zs,hem];omega
  have Hfin:=Y8 (show b1++bs (code (Zow bd))=bs (Bb (Vx e)) by
   rw[← hb1,Bb,K9,← Hbd.o];have e1:((Zoz (Vx e):Nat):Int)=Zow (bs (Vx e)):=Hsum.o;rw[e1];simp;rfl)
  rw[hb1]at Ht;have hm:bd.size≤maxLen:=by unfold maxLen;omega
  clear hbig hb1 hib;go_wp2_with fail;refine(Ht.o _).mono ?_;rintro x w4 ⟨rfl,hx4⟩;have X4:=Y8 (Hxr.o.trans hx4);clear hx4;go_wp2_with fail;refine(sum_any bd _ hm).mono ?_;rintro x w5 ⟨rfl,hx5⟩;have X5:=Y8 (X4.o.trans hx5);clear hx5;go_wp2_with fail;refine(Fm b1 (Zow bd) ⟨by omega,by omega⟩ (by omega) _).mono ?_;rintro x w6 ⟨rfl,hx6⟩;rw[Hfin.o];have X6:=Y8 (X5.o.trans hx6);clear hx6;go_wp2_with fail;go_ret2;exact⟨by rw[Hok.o];rfl,X6.o⟩
 have Hbad:=Y8 (Zjh hck);have hc0:(Vn e==0)=false:=by simpa using hck
 obtain⟨p0,p1,p2,p3,p4⟩:=Hk.o;unfold Gn;go_enter func81,ntmps81;go_wp2_with fail;refine(P6 e _ _ Hn0.o).mono ?_;rintro x w1 ⟨rfl,hx1⟩;have Hx1:=Y8 (Hx0.o.trans hx1);clear hx1 p0 p1 p2 p3 p4;go_wp2_with fail;go_ret2;exact⟨by rw[Hbad.o];rfl,Hx1.o⟩
