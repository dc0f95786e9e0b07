/- Lemmas of this claim: ModH. Conditions: as named. -/
import Derived.Test.YtnbclgbicnpmnaaGreatA12
namespace Go.Proofs.YtnbclgbicnpmnaaGreat
open Go.RowKit Go.Sort Tryz
set_option maxHeartbeats 0
set_option maxRecDepth 100000
set_option linter.all false
open Go.RowKit Go.Sort Go.Shelf
def Zsf(l:List Kp)(qs:List (Nm×Rc)):List Kp:=qs.foldl (fun l q=>Jt l q.1.k q.2) l
def J8(op client dl:Int)(ps:List (Nm×Rc)):List (Nm×Rc):=ps.map fun p=>(p.1,Vr op client dl p.1 p.2)
theorem Tb(l:List Kp)(qs:List (Nm×Rc))(q:Nm×Rc):Zsf l (qs++[q])=Jt (Zsf l qs) q.1.k q.2:=by simp[Zsf,Zif]
theorem Zx4(op client dl:Int)(ps:List (Nm×Rc)):(J8 op client dl ps).map Prod.snd=Bc op client dl ps:=by simp[J8,Bc,Zi6,Zho]
theorem Zx3(op client dl:Int)(ps:List (Nm×Rc)):(J8 op client dl ps).map Prod.fst=ps.map Prod.fst:=by simp[J8,Zi6,Zho]
theorem Zy5(op client dl:Int)(l:List Kp)(ps:List (Nm×Rc)):Qn op client dl l ps=Zsf l (J8 op client dl ps):=by
 unfold Qn Zsf J8;rw[List.foldl_map]
theorem Zy6(l:List Kp)(k:ByteArray)(r:Rc):(Jt l k r).length≤l.length+1:=by
 have:∀ (l:List Kp) d,(Vv k r d l).length≤l.length+1:=by
  intro l
  induction l with
  | nil=>intro d;cases d<;>simp[Vv]
  | cons p l ih =>
   intro d;rw[Vv];split
   ·have:=ih d;simp only[Zl];omega
   split
   ·have h2:(Vv k r true l).length≤l.length:=by
     have:∀ l:List Kp,(Vv k r true l).length≤l.length:=by
      intro l
      induction l with
      | nil=>simp[Vv]
      | cons q l ih2 =>
       rw[Vv];split
       ·simp only[Zl];omega
       split
       ·rename_i h;simp at h
       simp only[Zl];omega
     exact this l
    simp only[Zl];omega
   have:=ih d;simp only[Zl];omega
 exact this l _
theorem Zy7(l:List Kp)(qs:List (Nm×Rc)):(Zsf l qs).length≤l.length+qs.length:=by
 induction qs generalizing l with
 | nil=>simp[Zsf]
 | cons q qs ih =>
  have h1:=ih (Jt l q.1.k q.2);have h2:=Zy6 l q.1.k q.2;show(Zsf (Jt l q.1.k q.2) qs).length≤_;simp only[Zl];omega
theorem Zmn{w:World}{b m:Nat}{cl cap:Int}{l:List Kp}(h:Be w b m cl cap l):w.cell? ⟨b,0,none⟩=some (.int .i64 cl)∧w.cell? ⟨b,1,none⟩=some (.int .i64 cap)∧w.cell? ⟨b,2,none⟩=some (.map (some m))∧∀ ty,(Builtin.len_ #[191] ty #[.map (some m)]).run prog w=.ok (.int .i64 (l.length:Int)) w :=
 ⟨h.c0,h.c1,h.c2,fun ty=>h.map.len ty⟩
def Zle(b m:Nat)(cl cap client op ttl now:Int)(l:List Kp)(ns:List Nm)(w:World)(e:Ending)(w':World):Prop :=
 e=.returned (Wu (doR cl cap l client op ttl now ns))∧Be w' b m cl cap (doL cl cap l client op ttl now ns)∧Chg (· = m) w w'
structure Aw(w:World)(rb:Nat)(R:Ax):Prop where
 z0:w.cell? ⟨rb,0,none⟩=some (.int .i64 R.e)
 z1:w.cell? ⟨rb,1,none⟩=some (.int .i64 R.at_)
 z2:w.cell? ⟨rb,2,none⟩=some (.string R.nm)
 z3:w.cell? ⟨rb,3,none⟩=some (.int .i64 R.rc.st)
 z4:w.cell? ⟨rb,4,none⟩=some (.int .i64 R.rc.ow)
 z5:w.cell? ⟨rb,5,none⟩=some (.string R.rc.nm)
 z6:w.cell? ⟨rb,6,none⟩=some (.int .i64 R.rc.dl)
 z7:w.cell? ⟨rb,7,none⟩=some (.int .i64 R.tick)
 lt:rb<w.heap.size
theorem Aw.chg{S:Nat→Prop}{w w':World}{rb:Nat}{R:Ax}(h:Aw w rb R)(c:Chg S w w')(hb:¬ S rb):Aw w' rb R :=
 ⟨(c.cell (p:=⟨rb,0,none⟩) h.lt hb).trans h.z0,(c.cell (p:=⟨rb,1,none⟩) h.lt hb).trans h.z1,(c.cell (p:=⟨rb,2,none⟩) h.lt hb).trans h.z2,(c.cell (p:=⟨rb,3,none⟩) h.lt hb).trans h.z3,(c.cell (p:=⟨rb,4,none⟩) h.lt hb).trans h.z4,(c.cell (p:=⟨rb,5,none⟩) h.lt hb).trans h.z5,(c.cell (p:=⟨rb,6,none⟩) h.lt hb).trans h.z6,(c.cell (p:=⟨rb,7,none⟩) h.lt hb).trans h.z7,Zk8 h.lt c.size⟩
theorem Zy9(w:World)(R:Ax):Aw (w.alloc (.cells #[.int .i64 R.e,.int .i64 R.at_,.string R.nm,.int .i64 R.rc.st,.int .i64 R.rc.ow,.string R.rc.nm,.int .i64 R.rc.dl,.int .i64 R.tick] 53)) w.heap.size R:=by
 constructor<;>first|go_simp|simp
theorem Zoh{cap op client ttl now count:Int}{ps:List (Nm×Rc)}{w w':World}{e:Ending}{B:Nat}(h:Bf cap op client ttl now count ps w e w')(hB:B≤w.heap.size) :
 ∃ a n c qs,e=.returned (.tuple #[Wu (Wq cap op client ttl now count ps),.slice a n c])∧Ext w w'∧Jv w' (fun k=>B≤k) (.slice a n c) (qs.map Prod.snd)∧qs=(if(Wq cap op client ttl now count ps).e=0 then J8 op client (Zu3 op ttl now) ps else[])∧n=qs.length:=by
 obtain⟨av,rfl,hx,h1,h2⟩:=h;by_cases h0:(Wq cap op client ttl now count ps).e=0
 ·have ho:=h1 h0;obtain⟨a,c,rfl⟩:=Xb ho;refine⟨a,_,c,J8 op client (Zu3 op ttl now) ps,rfl,hx,?_,by rw[Zjx h0],by simp[J8]⟩;rw[Zx4];have e1:(Bc op client (Zu3 op ttl now) ps).length=ps.length:=by simp[Bc]
  unfold Jv;rw[e1];exact Rd.of_own ho fun k hk=>Zjw hB (ho.lt k hk).1
 have:=h2 h0;subst this;exact⟨none,0,0,[],rfl,hx,Rd.nil _ _ _,by rw[Zk9 h0],rfl⟩
def Zno(cap op client ttl now:Int)(l:List Kp)(ns:List Nm)(w1:World)(p a:Value)(wx:World):Prop :=
 ∃ rb2 A n c qs,p=.pointer (some ⟨rb2,0,none⟩)∧a=.slice A n c∧Aw wx rb2 (Wq cap op client ttl now l.length (Vy l ns))∧w1.heap.size≤rb2∧Jv wx (fun k=>w1.heap.size≤k) (.slice A n c) (qs.map Prod.snd)∧n=qs.length ∧
  qs=(if(Wq cap op client ttl now l.length (Vy l ns)).e=0 then J8 op client (Zu3 op ttl now) (Vy l ns)else[])∧Ext w1 wx
theorem Zmo{S:Nat→Prop}(b m:Nat)(cl cap client op ttl now:Int)(l:List Kp)(v:Value)(ns:List Nm)(w:World)(h:Be w b m cl cap l)(hll:l.length≤100000)(hks:∀ n∈ns,n.k.size≤maxLen)(hn:Vw w S v ns)(hS:¬ S m) :
 Calls prog 84 #[.pointer (some ⟨b,0,none⟩),.int .i64 client,.int .i64 op,.int .i64 ttl,v,.int .i64 now] w (Zle b m cl cap client op ttl now l ns w):=by
 obtain⟨A,cA,rfl⟩:=hn.shape;obtain⟨rb,hrb⟩:=gnX (w.heap.size);have hbl:=h.lt;have hml:=h.map.lt;have H:=Y4 h;have Hn:=Y4 hn;have Hks:=Y4 hks;have HS:=Y4 hS;have Hrb:=Y4 hrb;rw[hrb]at hbl hml;clear h hn hks hS;have X0:=Y4 ((Yl w).alloc (.cells #[.int .i64 0,.int .i64 0,.string ⟨#[]⟩,.int .i64 0,.int .i64 0,.string ⟨#[]⟩,.int .i64 0,.int .i64 0] 53));have hz0:=Fz w;rw[hrb]at hz0;have Hz0:=Y4 hz0;clear hz0;go_enter func84,ntmps84;go_wp2_with fail;refine(Rp b cl client op ttl now _ ns _ (H.o.ext X0.o).c0 (Hn.o.ext X0.o)).mono ?_;rintro x w1 ⟨rfl,hx⟩;have hz1:=Hz0.o.ext hx;have Hx1:=Y4 (X0.o.trans hx);clear hx hrb;cases hp:Q1 cl client op ttl now ns with
 | false =>
  have hR:doR cl cap l client op ttl now ns=⟨1,-1,⟨#[]⟩,default,0⟩:=by unfold doR;rw[hp];simp
  have hL:doL cl cap l client op ttl now ns=l:=by unfold doL;rw[hp];simp
  have HR:=Y4 hR;have HL:=Y4 hL;have Hp:=Y4 hp;obtain⟨z0,z1,z2,z3,z4,z5,z6,z7,zf,zl⟩:=hz1;clear hR hL hp;go_wp2_with fail;have hcg:Ext w ((((((((w1.setCell ⟨rb,0,none⟩ (.int .i64 1)).setCell ⟨rb,1,none⟩ (.int .i64 (-1))).setCell ⟨rb,2,none⟩ (.string ⟨#[]⟩)).setCell ⟨rb,3,none⟩ (.int .i64 0)).setCell ⟨rb,4,none⟩ (.int .i64 0)).setCell ⟨rb,5,none⟩ (.string ⟨#[]⟩)).setCell ⟨rb,6,none⟩ (.int .i64 0)).setCell ⟨rb,7,none⟩ (.int .i64 0)):=by
   (repeat refine Ya ?_ (by rw[Hrb.o];exact Yn _) _)
   exact Hx1.o
  refine Ys (v:=Wu ⟨1,-1,⟨#[]⟩,default,0⟩) (by simp[results,results84,go_sem,Wu,Qp, *]) rfl ⟨by rw[HR.o],?_,hcg.chg _⟩;rw[HL.o];exact H.o.ext hcg
 | true =>
  have Hp:=Y4 (Ziq hp);have Hpb:=Y4 hp;have hl1:=(Ziq hp).l1;obtain⟨nn,hnn⟩:=gnX (ns.length);rw[hnn]at hl1;rw[hnn];have Hnn:=Y4 hnn;have Hz1:=Y4 hz1;have hw1:rb+1≤w1.heap.size:=hz1.lt;clear hp hnn hz1;go_wp2_with fail;go_loopw [31,13] (fun o r wr=>∃ i:Nat,i≤nn∧o=.int .i64 (i:Int)∧wr.ownsRow w1.heap.size 51 4 r i (J0 ((ns.take i).map fun n=>Xg l n.k))∧Ext w1 wr) (fun o _ _=>nn-(intOf o).toNat);case atStart=>exact⟨0,by omega,rfl,Zie _ _ _ _,Yl _⟩
  obtain⟨i,hi,rfl,hown,hx⟩:=hrel;obtain⟨la,lc,rfl⟩:=Xb hown;have Hown:=Y4 hown;have Hx:=Y4 hx;have Hxw:=Y4 (Hx1.o.trans hx);clear hown hx;by_cases hlt:i<nn
  ·have hdc:decide ((i:Int)<(nn:Int))=true:=by simpa using hlt
   obtain⟨g,o,c',hv,p1,p2,hSg,b1,hcell⟩:=(Hn.o.ext Hxw.o).get (j:=i) (by rw[Hnn.o];exact hlt);rw[Hnn.o]at hv p1;simp only[Ye,Zjj]at hv;obtain⟨rfl,rfl⟩:=hv;obtain⟨n,hni⟩:∃ n,ns[i]?=some n:=⟨ns[i]'(by have:=Hnn.o;omega),by simp⟩;obtain⟨x1,x2,x3⟩:=hcell _ _ hni;have i0:(0:Int)≤(i:Int):=by omega
   have i1:(i:Int)<(nn:Int):=by omega
   have Hni:=Y4 hni;have hk:=Hks.o n (Zy hni);clear hcell hni;go_upto_region 7 with fail;have hA1:Ext wr (wr.alloc (.cells #[.string n.a,.string n.u,.string n.k] 109)):=(Yl wr).alloc _;have n2:(wr.alloc (.cells #[.string n.a,.string n.u,.string n.k] 109)).cell? ⟨wr.heap.size,2,none⟩=some (.string n.k):=by go_simp
   have hs1:(wr.alloc (.cells #[.string n.a,.string n.u,.string n.k] 109)).heap.size=wr.heap.size+1:=by simp
   obtain⟨W1,hW1⟩:=gnX (wr.alloc (.cells #[.string n.a,.string n.u,.string n.k] 109));rw[hW1]at hA1 n2 hs1;rw[hW1];obtain⟨nb,hnb⟩:=gnX (wr.heap.size);rw[hnb]at n2 hs1;rw[hnb];have hm1:=H.o.ext (Hxw.o.trans hA1);have hc2:=hm1.c2;have hlk:=hm1.map.look hk;unfold rcV at hlk;have HA1:=Y4 hA1;have Hs1:=Y4 hs1;have Hnb:=Y4 hnb;have Hm1:=Y4 hm1;clear hW1 hA1 hs1 hnb hm1 x1 x2 x3;refine Zjo (S:=fun w'=>w'.cell? ⟨b,2,none⟩=some (.map (some m))∧w'.cell? ⟨nb,2,none⟩=some (.string n.k)∧(Instr.lookup 191 (.map (some m)) (.string n.k) false).run prog w'=.ok (.agg #[.int .i64 (Xg l n.k).st,.int .i64 (Xg l n.k).ow,.string (Xg l n.k).nm,.int .i64 (Xg l n.k).dl]) w') (by kernel_rfl) ?_ (fun hHeld=>?_)
   ·exact⟨hc2,n2,(Hm1.o.map.ext (Yl W1).drew).look hk⟩
   refine Xv [0,1,2,3,4,5,6,7] 3 (by rfl) (by kernel_rfl) (by kernel_rfl) (fun _ _ d _ _ h=>by cases d<;>exact h) (by assumption) ?_;simp only[Z3,Z4,Z5,Zw,Zx];repeat(refine Xu (v:=?_) (by kernel_rfl) ?_ ?_;rotate_left;(focus((intro w hSw;(try dsimp only at hSw);go_simp);(first|done|(with_reducible rfl))));(try simp only[Act.put]);(try simp only[Zv]))
   refine Xs ?_;refine Zjv (rs:=[8]) (by kernel_rfl) (by simp) ?_;refine Yr (o:=_) rfl (fun K hK=>?_) Yq;go_simp;have hxa:Ext W1 ((W1.alloc (.cells #[.int .i64 (Xg l n.k).st,.int .i64 (Xg l n.k).ow,.string (Xg l n.k).nm,.int .i64 (Xg l n.k).dl] 51)).drew):=((Yl W1).alloc _).drew;have hbW:b<W1.heap.size:=by have:=Hs1.o;have:=Hnb.o;have:=Hx.o.size;omega
   have hnW:nb<W1.heap.size:=by have:=Hs1.o;omega
   have hrl:Rd ((W1.alloc (.cells #[.int .i64 (Xg l n.k).st,.int .i64 (Xg l n.k).ow,.string (Xg l n.k).nm,.int .i64 (Xg l n.k).dl] 51)).drew) (fun _=>True) 4 (.slice (some ⟨W1.heap.size,0,none⟩) 1 1) 1 [.int .i64 (Xg l n.k).st,.int .i64 (Xg l n.k).ow,.string (Xg l n.k).nm,.int .i64 (Xg l n.k).dl]:=(Qr W1 #[.int .i64 (Xg l n.k).st,.int .i64 (Xg l n.k).ow,.string (Xg l n.k).nm,.int .i64 (Xg l n.k).dl] 51 4 (by rfl)).drew;have hc2a:=(hxa.cell (p:=⟨b,2,none⟩) hbW).trans hc2;have n2a:=(hxa.cell (p:=⟨nb,2,none⟩) hnW).trans n2;have hma:=Hm1.o.map.ext hxa;have hbz:w1.heap.size≤((W1.alloc (.cells #[.int .i64 (Xg l n.k).st,.int .i64 (Xg l n.k).ow,.string (Xg l n.k).nm,.int .i64 (Xg l n.k).dl] 51)).drew).heap.size:=Zjw (Zjw Hx.o.size HA1.o.size) hxa.size;have Hxa:=Y4 hxa;have Hma:=Y4 hma;have Hrl:=Y4 hrl;have Hbz:=Y4 hbz;refine hK.out _ _ ⟨hc2a,n2a,hma.look hk⟩ (fun hHeld=>?_);clear hK K hxa hma hrl hbz hlk hc2 n2;try simp only[Act.put,Zv,Zu,Zt]
   refine Zjv (rs:=[9]) (by kernel_rfl) (by simp) ?_;refine Yr (o:=_) rfl (fun K hK=>?_) Yq;obtain⟨j0,hj,hj0,hj1,hj2⟩:=Zju Jh;refine Kt _ (by rfl) (.tmp 35) (.tmp 43) 25 (by rfl) w1.heap.size 51 j0 _ 4 40 Eb hj hj0 hj1 hj2 (by rfl) (by decide) (.slice la i lc) i (J0 ((ns.take i).map fun n=>Xg l n.k)) (by rfl) (K6 Hown.o (HA1.o.trans Hxa.o)) (fun _=>True) (.slice (some ⟨W1.heap.size,0,none⟩) 1 1) 1 [.int .i64 (Xg l n.k).st,.int .i64 (Xg l n.k).ow,.string (Xg l n.k).nm,.int .i64 (Xg l n.k).dl] (by rfl) Hrl.o (by simp[Value.oneCell']) (by unfold maxLen;omega) (by omega) Hbz.o ?_;intro v' w3 ha;have hcg:Chg (fun k=>w1.heap.size≤k∧k<nb) _ w3:=(Chg.refl _ _).grown ha.grown (fun k hk=>.inl (by have:=Hown.o.lt k hk;have:=Hnb.o;omega));have hx3:Ext w1 w3:=((Hx.o.trans HA1.o).trans Hxa.o).chg_new hcg fun k hk=>hk.1
   have hend:w3.ownsRow w1.heap.size 51 4 v' (i+1) (J0 ((ns.take (i+1)).map fun n=>Xg l n.k)):=by
    rw[take_at Hni.o,Yy,Zj0,Ziz,Dr];exact ha.own
   have hm3:=H.o.ext (Hx1.o.trans hx3);have n23:=(hcg.cell (p:=⟨nb,2,none⟩) (Zk8 hnW Hxa.o.size) (by simp only;omega)).trans n2a;have Hend:=Y4 hend;have Hx3:=Y4 hx3;have Hm3:=Y4 hm3;go_simp;refine hK.out _ _ ⟨Hm3.o.c2,n23,Hm3.o.map.look hk⟩ (fun hHeld=>?_);clear hK K hcg hx3 hend hm3 n23 ha n2a hc2a;try simp only[Act.put,Zv,Zu,Zt]
   refine Zih (i:=10) (oi:=_) (v:=?_) rfl (by kernel_rfl) (by kernel_rfl) (by kernel_rfl) (fun _ _ _ h=>h) (Or.inl ⟨by rfl,?_⟩) (by assumption) ?_;rotate_left;(focus((intro w hSw;(try dsimp only at hSw);go_simp);(first|done|(with_reducible rfl))));(try simp only[Act.put]);(try simp only[Zv]);refine Zjf (by kernel_rfl) ?_ _;go_simp;obtain⟨a3,c3,hv3⟩:=Xb Hend.o;subst hv3;clear hHeld;go_wp2_with fail;go_roundw;case rel=>exact⟨i+1,by omega,by go_num,Hend.o,Hx3.o⟩
   simp[intOf];omega
  have hdc:decide ((i:Int)<(nn:Int))=false:=by simp;omega
  obtain rfl:nn=i:=by omega
  have hrecs:Jv wr (fun k=>w1.heap.size≤k) (.slice la nn lc) ((Vy l ns).map Prod.snd):=by
   have h1:=Hown.o;rw[Zm (by rw[Hnn.o];exact Yn _)]at h1;have e1:(Vy l ns).map Prod.snd=ns.map fun n=>Xg l n.k:=by simp[Vy,Zi6,Zho]
   have e2:(ns.map fun n=>Xg l n.k).length=nn:=by rw[Zq];exact Hnn.o
   rw[e1];unfold Jv;rw[e2];exact Rd.of_own h1 fun k hk=>(h1.lt k hk).1
  have hps:(Vy l ns).map Prod.fst=ns:=by simp[Vy,Zi6,Zho]
  have hm1:=H.o.ext Hxw.o;have Hrecs:=Y4 hrecs;have Hps:=Y4 hps;have Hm1:=Y4 hm1;clear hrecs hps hm1;have hnI:Vw wr S (.slice A nn cA) ((Vy l ns).map Prod.fst):=by
   rw[Hps.o,← Hnn.o];exact Hn.o.ext Hxw.o
  have HnI:=Y4 hnI;clear hnI;go_upto_region 9 with fail;go_cut [16,17] (fun p a wx=>Zno cap op client ttl now l ns w1 p a wx);case first =>
   rename_i J1 K1 hJ hM;refine Zjo (S:=fun w'=>w'.cell? ⟨b,0,none⟩=some (.int .i64 cl)∧w'.cell? ⟨b,1,none⟩=some (.int .i64 cap)∧w'.cell? ⟨b,2,none⟩=some (.map (some m))∧∀ ty,(Builtin.len_ #[191] ty #[.map (some m)]).run prog w'=.ok (.int .i64 (l.length:Int)) w') (by kernel_rfl) ?_ (fun hHeld=>?_)
   ·exact Zmn (Hm1.o.ext (Yl wr).drew)
   refine Xv [0,1,2,3,4,5,6,7,8,9,10,11,12,13,14] 7 (by rfl) (by kernel_rfl) (by kernel_rfl) (fun _ _ d _ _ h=>by cases d<;>exact h) (by assumption) ?_;simp only[Z3,Z4,Z5,Zw,Zx];repeat(refine Xu (v:=?_) (by kernel_rfl) ?_ ?_;rotate_left;(focus((intro w hSw;(try dsimp only at hSw);go_simp);(first|done|(with_reducible rfl))));(try simp only[Act.put]);(try simp only[Zv]))
   refine Xs ?_;refine Zjv (rs:=[15,19]) (by kernel_rfl) (by simp) ?_;refine Yr (o:=_) rfl (fun K hK=>?_) (Yr (o:=_) rfl (fun K hK=>?_) Yq)
   ·go_simp;refine(Oj cl cap l.length client op ttl now _ _ (Vy l ns) wr.drew (by rw[Hps.o];exact Hp.o) (by omega) (by omega) (HnI.o.ext (Yl wr).drew) (Rd.ext Hrecs.o (Yl wr).drew)).mono ?_;intro x w3 hpost;obtain⟨a4,n4,c4,qs,rfl,hx3,hr3,hq3,hn3⟩:=Zoh (B:=w1.heap.size) hpost Hx.o.size;obtain⟨R,hR⟩:=gnX (Wq cap op client ttl now l.length (Vy l ns));rw[hR]at hq3;rw[hR];unfold Wu;have HR:=Y4 hR;have Hx3:=Y4 hx3;have Hr3:=Y4 hr3;have Hq3:=Y4 hq3;have Hn3:=Y4 hn3;clear hpost hx3 hr3 hq3 hR hn3;dsimp only;refine hK.out _ _ (Zmn (Hm1.o.ext ((Yl wr).drew.trans Hx3.o))) (fun hHeld=>?_);clear hK K;try simp only[Act.put,Zv,Zu,Zt]
    refine Xv [16,17,18] 3 (by rfl) (by kernel_rfl) (by kernel_rfl) (fun _ _ d _ _ h=>by cases d<;>exact h) (by assumption) ?_;simp only[Z3,Z4,Z5,Zw,Zx];repeat(refine Xu (v:=?_) (by kernel_rfl) ?_ ?_;rotate_left;(focus((intro w hSw;(try dsimp only at hSw);go_simp);(first|done|(with_reducible rfl))));(try simp only[Act.put]);(try simp only[Zv]))
    refine Xs ?_;refine Zjv (rs:=[19]) (by kernel_rfl) (by simp) ?_;refine Yr (o:=_) rfl (fun K hK=>?_) Yq;go_simp;refine hK.out _ _ (Zmn (Hm1.o.ext (((Yl wr).drew.trans Hx3.o).alloc _))) (fun hHeld=>?_);clear hK K;try simp only[Act.put,Zv,Zu,Zt]
    refine Zjv (rs:=[20]) (by kernel_rfl) (by simp) ?_;refine Yr (o:=_) rfl (fun K hK=>?_) Yq;go_simp;refine hK.out _ _ (Zmn (Hm1.o.ext (((Yl wr).drew.trans Hx3.o).alloc _))) (fun hHeld=>?_);clear hK K;try simp only[Act.put,Zv,Zu,Zt]
    refine Zih (i:=21) (oi:=_) (v:=?_) rfl (by kernel_rfl) (by kernel_rfl) (by kernel_rfl) (fun _ _ _ h=>h) (Or.inl ⟨by rfl,?_⟩) (by assumption) ?_;rotate_left;(focus((intro w hSw;(try dsimp only at hSw);go_simp);(first|done|(with_reducible rfl))));(try simp only[Act.put]);(try simp only[Zv]);refine Zjf (by kernel_rfl) ?_ _;go_simp;refine hM _ _ (hJ _ _ ?_);have hxa:Ext w3 (w3.alloc (.cells #[.int .i64 R.e,.int .i64 R.at_,.string R.nm,.int .i64 R.rc.st,.int .i64 R.rc.ow,.string R.rc.nm,.int .i64 R.rc.dl,.int .i64 R.tick] 53)):=(Yl w3).alloc _;have hfin:Zno cap op client ttl now l ns w1 (.pointer (some ⟨w3.heap.size,0,none⟩)) (.slice a4 n4 c4) (w3.alloc (.cells #[.int .i64 R.e,.int .i64 R.at_,.string R.nm,.int .i64 R.rc.st,.int .i64 R.rc.ow,.string R.rc.nm,.int .i64 R.rc.dl,.int .i64 R.tick] 53)) :=
     ⟨_,_,_,_,_,rfl,rfl,by rw[HR.o];exact Zy9 w3 R,Zjw Hx.o.size Hx3.o.size,Rd.ext Hr3.o hxa,Hn3.o,by rw[HR.o];exact Hq3.o,((Hx.o.drew.trans Hx3.o).trans hxa)⟩
    clear hHeld;(repeat apply Exists.intro)
    exact⟨hfin,rfl⟩
   go_simp;have hxz:Ext wr (wr.alloc (.cells #[.int .i64 0,.int .i64 0,.string ⟨#[]⟩,.int .i64 0,.int .i64 0,.string ⟨#[]⟩,.int .i64 0,.int .i64 0] 53)):=(Yl wr).alloc _;have hrz:=Fz wr;have hsz:(wr.alloc (.cells #[.int .i64 0,.int .i64 0,.string ⟨#[]⟩,.int .i64 0,.int .i64 0,.string ⟨#[]⟩,.int .i64 0,.int .i64 0] 53)).heap.size=wr.heap.size+1:=by simp
   obtain⟨W2,hW2⟩:=gnX (wr.alloc (.cells #[.int .i64 0,.int .i64 0,.string ⟨#[]⟩,.int .i64 0,.int .i64 0,.string ⟨#[]⟩,.int .i64 0,.int .i64 0] 53));rw[hW2]at hxz hrz hsz;rw[hW2];obtain⟨rb2,hrb2⟩:=gnX (wr.heap.size);rw[hrb2]at hrz hsz;rw[hrb2];have Hxz:=Y4 hxz;have Hrz:=Y4 hrz;have Hsz:=Y4 hsz;have Hrb2:=Y4 hrb2;clear hW2 hxz hrz hsz hrb2;refine hK.out _ _ (Zmn (Hm1.o.ext Hxz.o.drew)) (fun hHeld=>?_);clear hK K;try simp only[Act.put,Zv,Zu,Zt]
   refine Zjv (rs:=[15]) (by kernel_rfl) (by simp) ?_;refine Yr (o:=_) rfl (fun K hK=>?_) Yq;go_simp;refine(Oj cl cap l.length client op ttl now _ _ (Vy l ns) W2.drew (by rw[Hps.o];exact Hp.o) (by omega) (by omega) (HnI.o.ext Hxz.o.drew) (Rd.ext Hrecs.o Hxz.o.drew)).mono ?_;intro x w3 hpost;obtain⟨a4,n4,c4,qs,rfl,hx3,hr3,hq3,hn3⟩:=Zoh (B:=W2.heap.size) hpost (Yn _);obtain⟨R,hR⟩:=gnX (Wq cap op client ttl now l.length (Vy l ns));rw[hR]at hq3;rw[hR];unfold Wu;have HR:=Y4 hR;have Hx3:=Y4 ((Yl W2).drew.trans hx3);have Hr3:=Y4 hr3;have Hq3:=Y4 hq3;have Hn3:=Y4 hn3;clear hpost hx3 hr3 hq3 hR hn3;dsimp only;refine hK.out _ _ (Zmn (Hm1.o.ext (Hxz.o.trans Hx3.o))) (fun hHeld=>?_);clear hK K;try simp only[Act.put,Zv,Zu,Zt]
   refine Xv [16,17,18] 2 (by rfl) (by kernel_rfl) (by kernel_rfl) (fun _ _ d _ _ h=>by cases d<;>exact h) (by assumption) ?_;simp only[Z3,Z4,Z5,Zw,Zx];repeat(refine Xu (v:=?_) (by kernel_rfl) ?_ ?_;rotate_left;(focus((intro w hSw;(try dsimp only at hSw);go_simp);(first|done|(with_reducible rfl))));(try simp only[Act.put]);(try simp only[Zv]))
   refine Xs ?_;obtain⟨z0,z1,z2,z3,z4,z5,z6,z7,zf,zl⟩:=Hrz.o.ext Hx3.o;refine Zjv (rs:=[20]) (by kernel_rfl) (by simp) ?_;refine Yr (o:=_) rfl (fun K hK=>?_) Yq;go_simp;have hrw:w1.heap.size≤rb2:=by have:=Hx.o.size;have:=Hrb2.o;omega
   have hcg:Ext w1 ((((((((w3.setCell ⟨rb2,0,none⟩ (.int .i64 R.e)).setCell ⟨rb2,1,none⟩ (.int .i64 R.at_)).setCell ⟨rb2,2,none⟩ (.string R.nm)).setCell ⟨rb2,3,none⟩ (.int .i64 R.rc.st)).setCell ⟨rb2,4,none⟩ (.int .i64 R.rc.ow)).setCell ⟨rb2,5,none⟩ (.string R.rc.nm)).setCell ⟨rb2,6,none⟩ (.int .i64 R.rc.dl)).setCell ⟨rb2,7,none⟩ (.int .i64 R.tick)):=by
    (repeat refine Ya ?_ hrw _)
    exact(Hx.o.trans Hxz.o).trans Hx3.o
   have hcg2:Chg (· = rb2) w3 ((((((((w3.setCell ⟨rb2,0,none⟩ (.int .i64 R.e)).setCell ⟨rb2,1,none⟩ (.int .i64 R.at_)).setCell ⟨rb2,2,none⟩ (.string R.nm)).setCell ⟨rb2,3,none⟩ (.int .i64 R.rc.st)).setCell ⟨rb2,4,none⟩ (.int .i64 R.rc.ow)).setCell ⟨rb2,5,none⟩ (.string R.rc.nm)).setCell ⟨rb2,6,none⟩ (.int .i64 R.rc.dl)).setCell ⟨rb2,7,none⟩ (.int .i64 R.tick)):=by
    (repeat refine Chg.setCell (S:=(· = rb2)) ?_ (.inl rfl) _)
    exact Chg.refl _ _
   have hresp:Aw ((((((((w3.setCell ⟨rb2,0,none⟩ (.int .i64 R.e)).setCell ⟨rb2,1,none⟩ (.int .i64 R.at_)).setCell ⟨rb2,2,none⟩ (.string R.nm)).setCell ⟨rb2,3,none⟩ (.int .i64 R.rc.st)).setCell ⟨rb2,4,none⟩ (.int .i64 R.rc.ow)).setCell ⟨rb2,5,none⟩ (.string R.rc.nm)).setCell ⟨rb2,6,none⟩ (.int .i64 R.rc.dl)).setCell ⟨rb2,7,none⟩ (.int .i64 R.tick)) rb2 R:=by
    constructor<;>first|go_simp|(simp[World.setCell];omega)
   have hfin:Zno cap op client ttl now l ns w1 (.pointer (some ⟨rb2,0,none⟩)) (.slice a4 n4 c4) ((((((((w3.setCell ⟨rb2,0,none⟩ (.int .i64 R.e)).setCell ⟨rb2,1,none⟩ (.int .i64 R.at_)).setCell ⟨rb2,2,none⟩ (.string R.nm)).setCell ⟨rb2,3,none⟩ (.int .i64 R.rc.st)).setCell ⟨rb2,4,none⟩ (.int .i64 R.rc.ow)).setCell ⟨rb2,5,none⟩ (.string R.rc.nm)).setCell ⟨rb2,6,none⟩ (.int .i64 R.rc.dl)).setCell ⟨rb2,7,none⟩ (.int .i64 R.tick)) :=
    ⟨_,_,_,_,_,rfl,rfl,by rw[HR.o];exact hresp,hrw,Rd.mono (Rd.chg Hr3.o hcg2 fun k hk e=>by have:=Hsz.o;omega) fun k hk _=>by have:=Hsz.o;omega,Hn3.o,by rw[HR.o];exact Hq3.o,hcg⟩
   have hmf:=Hm1.o.ext (Hxz.o.trans Hx3.o);have hmf2:=hmf.chg hcg2 (by have:=Hrb2.o;have:=Hx.o.size;omega) (by have:=Hrb2.o;have:=Hx.o.size;omega);refine hK.out _ _ (Zmn hmf2) (fun hHeld=>?_);clear hK K;try simp only[Act.put,Zv,Zu,Zt]
   refine Zih (i:=21) (oi:=_) (v:=?_) rfl (by kernel_rfl) (by kernel_rfl) (by kernel_rfl) (fun _ _ _ h=>h) (Or.inl ⟨by rfl,?_⟩) (by assumption) ?_;rotate_left;(focus((intro w hSw;(try dsimp only at hSw);go_simp);(first|done|(with_reducible rfl))));(try simp only[Act.put]);(try simp only[Zv]);refine Zjf (by kernel_rfl) ?_ _;go_simp;refine hM _ _ (hJ _ _ ?_);clear hHeld hcg hcg2 hresp hmf hmf2;(repeat apply Exists.intro)
   exact⟨hfin,rfl⟩
  obtain⟨rb2,A2,n2,c2,qs,rfl,rfl,hresp,hrb2,hrecs2,rfl,hqs,hxc⟩:=hcut;obtain⟨R,hR⟩:=gnX (Wq cap op client ttl now l.length (Vy l ns));rw[hR]at hresp hqs;have hdoR:doR cl cap l client op ttl now ns=R:=by unfold doR;rw[Zjx Hpb.o,hR]
  have hdoL:doL cl cap l client op ttl now ns=Zsf l qs:=by
   unfold doL;rw[hR,hqs];by_cases h0:R.e=0
   ·rw[Zjx ⟨Hpb.o,h0⟩,Zjx h0,← Zy5];unfold Qn;congr 1;funext l p;rw[Zqj (d':=Zu3 op ttl now) (fun ht=>by unfold Zu3;rw[Zjx ht])]
   rw[Zk9 fun q=>h0 q.2,Zk9 h0];rfl
  have hql:qs.length≤16:=by
   rw[hqs];split
   ·simp[J8,Vy];rw[Hnn.o];exact hl1
   simp
  have hqn:∀ (j:Nat) (q:Nm×Rc),qs[j]?=some q→ns[j]?=some q.1:=by
   intro j q hq;have hj:(qs.map Prod.fst)[j]?=some q.1:=by rw[Zn,hq];rfl
   rw[hqs]at hj;split at hj
   ·rw[Zx3,Hps.o]at hj;exact hj
   simp at hj
  have HdoR:=Y4 hdoR;have HdoL:=Y4 hdoL;have Hqn:=Y4 hqn;have Hresp:=Y4 hresp;have Hrecs2:=Y4 hrecs2;have Hxc:=Y4 (Hx1.o.trans hxc);have Hxc1:=Y4 hxc;have Hrb2:=Y4 hrb2;have Hqn2:=Y4 (show qs.length=(qs.map Prod.snd).length by simp);clear hR hqs hdoR hdoL hqn hresp hrecs2 hxc hrb2;go_wp2_with fail;go_loopw [67] (fun o wr=>∃ i:Nat,i≤qs.length∧o=.int .i64 (i:Int)∧MapAt wr m (Zsf l (qs.take i))∧Chg (· = m) wc wr) (fun o _=>qs.length-(intOf o).toNat);case atStart=>exact⟨0,by omega,rfl,(H.o.ext Hxc.o).map,Chg.refl _ _⟩
  obtain⟨i,hi',rfl,hmp,hcg⟩:=hrel;have Hmp:=Y4 hmp;have Hcg:=Y4 hcg;clear hmp hcg;by_cases hlt2:i<qs.length
  ·have hdc2:decide ((i:Int)<(qs.length:Int))=true:=by simpa using hlt2
   obtain⟨⟨n,r⟩,hqi⟩:∃ q,qs[i]?=some q:=⟨qs[i],by simp[hlt2]⟩;have hqr:(qs.map Prod.snd)[i]?=some r:=by rw[Zn,hqi];rfl
   have hni:=Hqn.o i _ hqi;simp only at hni;have hmlw1:m<w1.heap.size:=by omega
   have hrm:∀ k,w1.heap.size≤k→¬ k=m:=fun k hk e=>by omega
   obtain⟨g2,o2,c2',hv2,p3,p4,b2,y0,y1,y2,y3⟩:=Qx (Rd.chg Hrecs2.o Hcg.o hrm) hqr;rw[← Hqn2.o]at hv2 p3;obtain⟨g,o,c',hv,p1,p2,hSg,b1,hcell⟩:=Vw.get (Rd.chg (Hn.o.ext Hxc.o) Hcg.o fun k hk e=>HS.o (e▸hk)) (j:=i) ((Zr.1 hni).1);rw[Hnn.o]at hv p1;simp only[Ye,Zjj]at hv hv2;obtain⟨rfl,rfl⟩:=hv;obtain⟨rfl,rfl⟩:=hv2;obtain⟨_,_,x3⟩:=hcell _ _ hni;have i0:(0:Int)≤(i:Int):=by omega
   have i1:(i:Int)<(qs.length:Int):=by omega
   have i2:(i:Int)<(nn:Int):=by have:=(Zr.1 hni).1;rw[Hnn.o]at this;omega
   have hk:=Hks.o n (Zy hni);have hgm:¬ g=m:=fun e=>HS.o (e▸hSg)
   have hlm:(Zsf l (qs.take i)).length<maxLen:=by have:=Zy7 l (qs.take i);rw[Zp]at this;unfold maxLen;omega
   have hne:¬ b=m:=H.o.ne;have Hqi:=Y4 hqi;clear hqi hqr hni hcell hmlw1 hrm;by_cases hst:r.st=0
   ·have hst':(r.st==0)=true:=by simpa using hst
    have Hst:=Y4 hst;clear hst;go_upto_region 14 with fail;have hA1:Ext wr (wr.alloc (.cells #[.int .i64 r.st,.int .i64 r.ow,.string r.nm,.int .i64 r.dl] 51)):=(Yl wr).alloc _;have e0:(wr.alloc (.cells #[.int .i64 r.st,.int .i64 r.ow,.string r.nm,.int .i64 r.dl] 51)).cell? ⟨wr.heap.size,0,none⟩=some (.int .i64 r.st):=by go_simp
    have e1:(wr.alloc (.cells #[.int .i64 r.st,.int .i64 r.ow,.string r.nm,.int .i64 r.dl] 51)).cell? ⟨wr.heap.size,1,none⟩=some (.int .i64 r.ow):=by go_simp
    have e2:(wr.alloc (.cells #[.int .i64 r.st,.int .i64 r.ow,.string r.nm,.int .i64 r.dl] 51)).cell? ⟨wr.heap.size,2,none⟩=some (.string r.nm):=by go_simp
    have e3:(wr.alloc (.cells #[.int .i64 r.st,.int .i64 r.ow,.string r.nm,.int .i64 r.dl] 51)).cell? ⟨wr.heap.size,3,none⟩=some (.int .i64 r.dl):=by go_simp
    have hs1:(wr.alloc (.cells #[.int .i64 r.st,.int .i64 r.ow,.string r.nm,.int .i64 r.dl] 51)).heap.size=wr.heap.size+1:=by simp
    obtain⟨W1,hW1⟩:=gnX (wr.alloc (.cells #[.int .i64 r.st,.int .i64 r.ow,.string r.nm,.int .i64 r.dl] 51));rw[hW1]at hA1 e0 e1 e2 e3 hs1;rw[hW1];obtain⟨nb,hnb⟩:=gnX (wr.heap.size);rw[hnb]at e0 e1 e2 e3 hs1;rw[hnb];have hmlt:=Hmp.o.lt;have hbw:b<wr.heap.size:=by have:=(Hxc.o.size);have:=Hcg.o.size;have:=H.o.lt;omega
    have hc2:W1.cell? ⟨b,2,none⟩=some (.map (some m)):=(hA1.cell (p:=⟨b,2,none⟩) hbw).trans ((Hcg.o.cell (p:=⟨b,2,none⟩) (by have:=Hxc.o.size;have:=H.o.lt;simp only;omega) hne).trans (H.o.ext Hxc.o).c2);have x3:=(hA1.cell (p:=⟨g,o+i*3+2,none⟩) b1).trans x3;have hbW:b<W1.heap.size:=Zk8 hbw hA1.size;have hgW:g<W1.heap.size:=Zk8 b1 hA1.size;have hnW:nb<W1.heap.size:=by omega
    have hnm:¬ nb=m:=by omega
    have Hmw:=Y4 (Hmp.o.ext hA1);have HcgW:=Y4 (Hcg.o.trans (hA1.chg (fun k=>k=m)));clear hW1 hA1 y0 y1 y2 y3 hs1 hmlt hbw hnb;refine Zjo (S:=fun w'=>w'.cell? ⟨b,2,none⟩=some (.map (some m))∧w'.cell? ⟨g,o+i*3+2,none⟩=some (.string n.k)) (by kernel_rfl) ?_ (fun hHeld=>?_)
    ·exact⟨hc2,x3⟩
    refine Xv [0,1,2,3,4,5,6,7,8] 1 (by rfl) (by kernel_rfl) (by kernel_rfl) (fun _ _ d _ _ h=>by cases d<;>exact h) (by assumption) ?_;simp only[Z3,Z4,Z5,Zw,Zx];repeat(refine Xu (v:=?_) (by kernel_rfl) ?_ ?_;rotate_left;(focus((intro w hSw;(try dsimp only at hSw);go_simp);(first|done|(with_reducible rfl))));(try simp only[Act.put]);(try simp only[Zv]))
    refine Xs ?_;obtain⟨w4,hrun,hmap4,hcg4,hsz4⟩:=(Hmw.o.ext (Yl W1).drew).del hk Hst.o 0;refine Zjv (rs:=[9]) (by kernel_rfl) (by simp) ?_;refine Yr (o:=_) rfl (fun K hK=>?_) Yq;go_simp;refine hK.out _ _ ⟨(hcg4.cell (p:=⟨b,2,none⟩) hbW hne).trans hc2,(hcg4.cell (p:=⟨g,o+i*3+2,none⟩) hgW hgm).trans x3⟩ (fun hHeld=>?_);clear hK K;try simp only[Act.put,Zv,Zu,Zt]
    refine Zjf (by kernel_rfl) ?_ _;have Hm4:=Y4 hmap4;have Hcg4:=Y4 (HcgW.o.trans ((Chg.refl (fun k=>k=m) W1).drew.trans hcg4));clear hHeld hmap4 hcg4 hsz4 hrun x3 hc2 e0 e1 e2 e3;go_simp;go_wp2_with fail;go_roundw;case rel=>exact⟨i+1,by omega,by go_num,by rw[take_at Hqi.o,Tb];exact Hm4.o,Hcg4.o⟩
    simp[intOf];omega
   have hst':(r.st==0)=false:=by simpa using hst
   have Hst:=Y4 hst;clear hst;go_upto_region 15 with fail;have hA1:Ext wr (wr.alloc (.cells #[.int .i64 r.st,.int .i64 r.ow,.string r.nm,.int .i64 r.dl] 51)):=(Yl wr).alloc _;have e0:(wr.alloc (.cells #[.int .i64 r.st,.int .i64 r.ow,.string r.nm,.int .i64 r.dl] 51)).cell? ⟨wr.heap.size,0,none⟩=some (.int .i64 r.st):=by go_simp
   have e1:(wr.alloc (.cells #[.int .i64 r.st,.int .i64 r.ow,.string r.nm,.int .i64 r.dl] 51)).cell? ⟨wr.heap.size,1,none⟩=some (.int .i64 r.ow):=by go_simp
   have e2:(wr.alloc (.cells #[.int .i64 r.st,.int .i64 r.ow,.string r.nm,.int .i64 r.dl] 51)).cell? ⟨wr.heap.size,2,none⟩=some (.string r.nm):=by go_simp
   have e3:(wr.alloc (.cells #[.int .i64 r.st,.int .i64 r.ow,.string r.nm,.int .i64 r.dl] 51)).cell? ⟨wr.heap.size,3,none⟩=some (.int .i64 r.dl):=by go_simp
   have hs1:(wr.alloc (.cells #[.int .i64 r.st,.int .i64 r.ow,.string r.nm,.int .i64 r.dl] 51)).heap.size=wr.heap.size+1:=by simp
   obtain⟨W1,hW1⟩:=gnX (wr.alloc (.cells #[.int .i64 r.st,.int .i64 r.ow,.string r.nm,.int .i64 r.dl] 51));rw[hW1]at hA1 e0 e1 e2 e3 hs1;rw[hW1];obtain⟨nb,hnb⟩:=gnX (wr.heap.size);rw[hnb]at e0 e1 e2 e3 hs1;rw[hnb];have hmlt:=Hmp.o.lt;have hbw:b<wr.heap.size:=by have:=(Hxc.o.size);have:=Hcg.o.size;have:=H.o.lt;omega
   have hc2:W1.cell? ⟨b,2,none⟩=some (.map (some m)):=(hA1.cell (p:=⟨b,2,none⟩) hbw).trans ((Hcg.o.cell (p:=⟨b,2,none⟩) (by have:=Hxc.o.size;have:=H.o.lt;simp only;omega) hne).trans (H.o.ext Hxc.o).c2);have x3:=(hA1.cell (p:=⟨g,o+i*3+2,none⟩) b1).trans x3;have hbW:b<W1.heap.size:=Zk8 hbw hA1.size;have hgW:g<W1.heap.size:=Zk8 b1 hA1.size;have hnW:nb<W1.heap.size:=by omega
   have hnm:¬ nb=m:=by omega
   have Hmw:=Y4 (Hmp.o.ext hA1);have HcgW:=Y4 (Hcg.o.trans (hA1.chg (fun k=>k=m)));clear hW1 hA1 y0 y1 y2 y3 hs1 hmlt hbw hnb;refine Zjo (S:=fun w'=>w'.cell? ⟨b,2,none⟩=some (.map (some m))∧w'.cell? ⟨g,o+i*3+2,none⟩=some (.string n.k)∧w'.cell? ⟨nb,0,none⟩=some (.int .i64 r.st)∧w'.cell? ⟨nb,1,none⟩=some (.int .i64 r.ow)∧w'.cell? ⟨nb,2,none⟩=some (.string r.nm)∧w'.cell? ⟨nb,3,none⟩=some (.int .i64 r.dl)) (by kernel_rfl) ?_ (fun hHeld=>?_)
   ·exact⟨hc2,x3,e0,e1,e2,e3⟩
   refine Xv [0,1,2,3,4,5,6,7,8,9] 1 (by rfl) (by kernel_rfl) (by kernel_rfl) (fun _ _ d _ _ h=>by cases d<;>exact h) (by assumption) ?_;simp only[Z3,Z4,Z5,Zw,Zx];repeat(refine Xu (v:=?_) (by kernel_rfl) ?_ ?_;rotate_left;(focus((intro w hSw;(try dsimp only at hSw);go_simp);(first|done|(with_reducible rfl))));(try simp only[Act.put]);(try simp only[Zv]))
   refine Xs ?_;obtain⟨w4,hrun,hmap4,hcg4,hsz4⟩:=(Hmw.o.ext (Yl W1).drew).put hlm hk Hst.o;unfold rcV at hrun;refine Zjv (rs:=[10]) (by kernel_rfl) (by simp) ?_;refine Yr (o:=_) rfl (fun K hK=>?_) Yq;go_simp;refine hK.out _ _ ⟨(hcg4.cell (p:=⟨b,2,none⟩) hbW hne).trans hc2,(hcg4.cell (p:=⟨g,o+i*3+2,none⟩) hgW hgm).trans x3,(hcg4.cell (p:=⟨nb,0,none⟩) hnW hnm).trans e0,(hcg4.cell (p:=⟨nb,1,none⟩) hnW hnm).trans e1,(hcg4.cell (p:=⟨nb,2,none⟩) hnW hnm).trans e2,(hcg4.cell (p:=⟨nb,3,none⟩) hnW hnm).trans e3⟩ (fun hHeld=>?_);clear hK K;try simp only[Act.put,Zv,Zu,Zt]
   refine Zjf (by kernel_rfl) ?_ _;have Hm4:=Y4 hmap4;have Hcg4:=Y4 (HcgW.o.trans ((Chg.refl (fun k=>k=m) W1).drew.trans hcg4));clear hHeld hmap4 hcg4 hsz4 hrun x3 hc2 e0 e1 e2 e3;go_simp;go_wp2_with fail;go_roundw;case rel=>exact⟨i+1,by omega,by go_num,by rw[take_at Hqi.o,Tb];exact Hm4.o,Hcg4.o⟩
   simp[intOf];omega
  have hdc2:decide ((i:Int)<(qs.length:Int))=false:=by simp;omega
  obtain rfl:i=qs.length:=by omega
  have hx9:Chg (· = m) w wr:=(Hxc.o.chg _).trans Hcg.o;have hrz:=(Hz1.o.ext Hxc1.o).chg Hcg.o (by omega);have hr9:=Hresp.o.chg Hcg.o (by have:=Hrb2.o;omega);obtain⟨z0,z1,z2,z3,z4,z5,z6,z7,zf,zl⟩:=hrz;obtain⟨r0,r1,r2,r3,r4,r5,r6,r7,rl⟩:=hr9;have hmp9:=Hmp.o;rw[Zm (Yn _)]at hmp9;have Hx9:=Y4 hx9;have Hmp9:=Y4 hmp9;clear hx9 hmp9;go_wp2_with fail;have hcf:Chg (· = m) w ((((((((wr.setCell ⟨rb,0,none⟩ (.int .i64 R.e)).setCell ⟨rb,1,none⟩ (.int .i64 R.at_)).setCell ⟨rb,2,none⟩ (.string R.nm)).setCell ⟨rb,3,none⟩ (.int .i64 R.rc.st)).setCell ⟨rb,4,none⟩ (.int .i64 R.rc.ow)).setCell ⟨rb,5,none⟩ (.string R.rc.nm)).setCell ⟨rb,6,none⟩ (.int .i64 R.rc.dl)).setCell ⟨rb,7,none⟩ (.int .i64 R.tick)):=by
   (repeat refine Chg.setCell ?_ (.inr (by rw[Hrb.o];exact Yn _)) _)
   exact Hx9.o
  have hcb:Chg (· = rb) wr ((((((((wr.setCell ⟨rb,0,none⟩ (.int .i64 R.e)).setCell ⟨rb,1,none⟩ (.int .i64 R.at_)).setCell ⟨rb,2,none⟩ (.string R.nm)).setCell ⟨rb,3,none⟩ (.int .i64 R.rc.st)).setCell ⟨rb,4,none⟩ (.int .i64 R.rc.ow)).setCell ⟨rb,5,none⟩ (.string R.rc.nm)).setCell ⟨rb,6,none⟩ (.int .i64 R.rc.dl)).setCell ⟨rb,7,none⟩ (.int .i64 R.tick)):=by
   (repeat refine Chg.setCell (S:=(· = rb)) ?_ (.inl rfl) _)
   exact Chg.refl _ _
  refine Ys (v:=Wu R) (by simp[results,results84,go_sem,Wu, *]) rfl ⟨by rw[HdoR.o],?_,hcf⟩;rw[HdoL.o];exact H.o.turn hcf (Hmp9.o.chg hcb (by omega))
