/- Lemmas of this claim: RDo. Conditions: as named. -/
import Derived.Deep.DeepCutAuto
import Derived.Test.YtnbclgbicnpmnaaGreatA02
import Derived.Test.YtnbclgbicnpmnaaGreatA04
import Derived.Test.YtnbclgbicnpmnaaGreatA10
import Derived.Test.YtnbclgbicnpmnaaGreatA17
import Derived.Test.YtnbclgbicnpmnaaGreatA18
import Derived.Test.YtnbclgbicnpmnaaGreatA21
namespace Go.Proofs.YtnbclgbicnpmnaaGreat
open Go.RowKit Go.Sort
set_option maxHeartbeats 0
set_option maxRecDepth 100000
set_option linter.all false
open Go.RowKit Go.Sort Go.Shelf
def Zoi(b:Nat)(cl cap client op ttl now:Int)(l:List Kp)(ns:List Nm)(w:World)(e:Ending)(w':World):Prop :=
 e=.returned (Wy (doR cl cap l client op ttl now ns))∧Vm w' (fun k=>b<k) b cl cap (doL cl cap l client op ttl now ns)∧Chg (· = b) w w'
theorem Chg.then_new{S T:Nat→Prop}{a b c:World}(h:Chg S a b)(k:Chg T b c)(hT:∀ i,T i→a.heap.size≤i):Chg S a c :=
 ⟨k.os.trans h.os,k.tape.trans h.tape,k.output.trans h.output,Zlo h.size k.size,fun i hi hS=>(k.block i (Zlr hi h.size) (fun ht=>by have:=hT i ht;omega)).trans (h.block i hi hS)⟩
theorem Lg(op client dl:Int)(l:List Kp)(ps:List (Nm×Rc))(p:Nm×Rc):Ks op client dl l (ps++[p])=Ko (Ks op client dl l ps) p.1.k (Q7 op client dl p.1 p.2):=by simp[Ks,Zjn]
theorem Lh(op client dl:Int):∀ (ps:List (Nm×Rc)) (l:List Kp),(Ks op client dl l ps).length≤l.length+ps.length
 | [],l=>by simp[Ks]
 | p::ps,l=>by
  have h1:=Lh op client dl ps (Ko l p.1.k (Q7 op client dl p.1 p.2));have h2:=Zyk l p.1.k (Q7 op client dl p.1 p.2);show(Ks op client dl (Ko l p.1.k (Q7 op client dl p.1 p.2)) ps).length≤_;simp only[Zl];omega
theorem Vm.low{S T:Nat→Prop}{w:World}{b:Nat}{cl cap:Int}{l:List Kp}(h:Vm w S b cl cap l)(hST:∀ k,S k→T k)(hb:¬ T b):Vm w T b cl cap l:=by
 obtain⟨v,h1,h2⟩:=h.c2;exact⟨h.c0,h.c1,⟨v,h1,Rd.mono h2 fun k hk _=>hST k hk⟩,h.fz,h.lt,hb⟩
theorem Vm.set{S:Nat→Prop}{w w':World}{b:Nat}{cl cap:Int}{l l':List Kp}{v:Value}{B:Nat}(h:Vm w S b cl cap l)(x:Ext w w')(ho:w'.ownsRow B 161 5 v l'.length (Wn l'))(hB:∀ k,B≤k→S k):Vm (w'.setCell ⟨b,2,none⟩ v) S b cl cap l':=by
 obtain⟨v0,c2,_⟩:=h.c2;have c0:=(x.cell (p:=⟨b,0,none⟩) h.lt).trans h.c0;have c1:=(x.cell (p:=⟨b,1,none⟩) h.lt).trans h.c1;have c2':=(x.cell (p:=⟨b,2,none⟩) h.lt).trans c2;have fz:=fun i=>(x.frozen (p:=⟨b,i,none⟩) h.lt).trans (h.fz i)
 have hl:=Zlr h.lt x.size;have hc:Chg (· = b) w' (w'.setCell ⟨b,2,none⟩ v):=(Chg.refl (· = b) w').setCell (p:=⟨b,2,none⟩) (.inl rfl) v;have hr:Rd w' S 5 v l'.length (Wn l'):=Rd.of_own ho fun k hk=>hB k (ho.lt k hk).1
 refine⟨by go_simp,by go_simp,⟨v,by go_simp,Rd.chg hr hc fun k hk e=>h.nS (e▸hk)⟩,fun i=>by go_simp,by simpa[World.setCell]using hl,h.nS⟩
def Zvv(cap op client ttl now:Int)(l:List Kp)(ns:List Nm)(w1:World)(p:Value)(wx:World):Prop :=
 ∃ rb2,p=.pointer (some ⟨rb2,0,none⟩)∧Dt wx rb2 (Wh cap op client ttl now l.length (Vs l ns))∧w1.heap.size≤rb2∧Ext w1 wx
theorem Zq2{S:Nat→Prop}(b:Nat)(cl cap client op ttl now:Int)(l:List Kp)(v:Value)(ns:List Nm)(w:World)(h:Vm w (fun k=>b<k) b cl cap l)(hll:l.length≤90000)(hn:Wf w S v ns)(hS:¬ S b) :
 Calls Tryz.prog 30 #[.pointer (some ⟨b,0,none⟩),.int .i64 client,.int .i64 op,.int .i64 ttl,v,.int .i64 now] w (Zoi b cl cap client op ttl now l ns w):=by
 obtain⟨A,cA,rfl⟩:=hn.shape;obtain⟨rb,hrb⟩:=gnX (w.heap.size);have hbl:=h.lt;have H:=Ya h;have Hn:=Ya hn;have HS:=Ya hS;have Hrb:=Ya hrb;rw[hrb]at hbl;clear h hn hS;have X0:=Ya ((Yn w).alloc (.cells #[.int .i64 0,.int .i64 0,.string ⟨#[]⟩,.int .i64 0,.int .i64 0,.string ⟨#[]⟩,.int .i64 0,.int .i64 0] 53));have hz0:=De w;rw[hrb]at hz0;have Hz0:=Ya hz0;have hm0:=H.o.ext X0.o;have c0:=hm0.c0;have c1:=hm0.c1;clear hz0 hm0;go_enter Tryz.func30,Tryz.ntmps30;go_wp2_with fail;refine(Zzu (cap:=cap) cl client op ttl now _ ns _ (Hn.o.ext X0.o)).mono ?_;rintro x w1 ⟨rfl,hx⟩;have hz1:=Hz0.o.ext hx;have Hx1:=Ya (X0.o.trans hx);clear hx hrb c0 c1;cases hp:Qf cl client op ttl now ns with
 | false =>
  have hR:doR cl cap l client op ttl now ns=⟨1,-1,⟨#[]⟩,default,0⟩:=by unfold doR;rw[hp];simp
  have hL:doL cl cap l client op ttl now ns=l:=by unfold doL;rw[hp];simp
  have HR:=Ya hR;have HL:=Ya hL;have Hp:=Ya hp;obtain⟨z0,z1,z2,z3,z4,z5,z6,z7,zf,zl⟩:=hz1;clear hR hL hp;go_wp2_with fail;have hcg:Ext w ((((((((w1.setCell ⟨rb,0,none⟩ (.int .i64 1)).setCell ⟨rb,1,none⟩ (.int .i64 (-1))).setCell ⟨rb,2,none⟩ (.string ⟨#[]⟩)).setCell ⟨rb,3,none⟩ (.int .i64 0)).setCell ⟨rb,4,none⟩ (.int .i64 0)).setCell ⟨rb,5,none⟩ (.string ⟨#[]⟩)).setCell ⟨rb,6,none⟩ (.int .i64 0)).setCell ⟨rb,7,none⟩ (.int .i64 0)):=by
   (repeat refine Yc ?_ (by rw[Hrb.o];exact Yp _) _)
   exact Hx1.o
  refine Yu (v:=Wy ⟨1,-1,⟨#[]⟩,default,0⟩) (by simp[results,Tryz.results30,go_sem,Wy,Qz, *]) rfl ⟨by rw[HR.o],?_,hcg.chg _⟩;rw[HL.o];exact H.o.ext hcg
 | true =>
  have Hp:=Ya (Zjl hp);have Hpb:=Ya hp;have hl1:=(Zjl hp).l1;obtain⟨nn,hnn⟩:=gnX (ns.length);rw[hnn]at hl1;rw[hnn];have Hnn:=Ya hnn;have Hz1:=Ya hz1;have hw1:rb+1≤w1.heap.size:=hz1.lt;clear hp hnn hz1;go_wp2_with fail;go_loopw [33,13] (fun o r wr=>∃ i:Nat,i≤nn∧o=.int .i64 (i:Int)∧wr.ownsRow w1.heap.size 51 4 r i (Ji ((ns.take i).map fun n=>Vx l n.k))∧Ext w1 wr) (fun o _ _=>nn-(intOf o).toNat);case atStart=>exact⟨0,by omega,rfl,Zkg _ _ _ _,Yn _⟩
  obtain⟨i,hi,rfl,hown,hx⟩:=hrel;obtain⟨la,lc,rfl⟩:=Xf hown;have Hown:=Ya hown;have Hx:=Ya hx;have Hxw:=Ya (Hx1.o.trans hx);clear hown hx;by_cases hlt:i<nn
  ·have hdc:decide ((i:Int)<(nn:Int))=true:=by simpa using hlt
   obtain⟨g,o,c',hv,p1,p2,hSg,b1,hcell⟩:=(Hn.o.ext Hxw.o).get (j:=i) (by rw[Hnn.o];exact hlt);rw[Hnn.o]at hv p1;simp only[Yg,Zlc]at hv;obtain⟨rfl,rfl⟩:=hv;obtain⟨n,hni⟩:∃ n,ns[i]?=some n:=⟨ns[i]'(by have:=Hnn.o;omega),by simp⟩;obtain⟨x1,x2,x3⟩:=hcell _ _ hni;have i0:(0:Int)≤(i:Int):=by omega
   have i1:(i:Int)<(nn:Int):=by omega
   have Hni:=Ya hni;clear hcell hni;go_upto_region 7 with fail;have hA1:Ext wr (wr.alloc (.cells #[.string n.a,.string n.u,.string n.k] 109)):=(Yn wr).alloc _;have n2:(wr.alloc (.cells #[.string n.a,.string n.u,.string n.k] 109)).cell? ⟨wr.heap.size,2,none⟩=some (.string n.k):=by go_simp
   have hs1:(wr.alloc (.cells #[.string n.a,.string n.u,.string n.k] 109)).heap.size=wr.heap.size+1:=by simp
   obtain⟨W1,hW1⟩:=gnX (wr.alloc (.cells #[.string n.a,.string n.u,.string n.k] 109));rw[hW1]at hA1 n2 hs1;rw[hW1];obtain⟨nb,hnb⟩:=gnX (wr.heap.size);rw[hnb]at n2 hs1;rw[hnb];have hm1:=H.o.ext (Hxw.o.trans hA1);obtain⟨lv,hc2,hka⟩:=hm1.c2;obtain⟨kA,kC,rfl⟩:=hka.shape;have HA1:=Ya hA1;have Hs1:=Ya hs1;have Hnb:=Ya hnb;have Hm1:=Ya hm1;have Hka:=Ya hka;clear hW1 hA1 hs1 hnb hm1 x1 x2 x3 hka;refine Zli (S:=fun w'=>w'.cell? ⟨b,2,none⟩=some (.slice kA l.length kC)∧w'.cell? ⟨nb,2,none⟩=some (.string n.k)) (by kernel_rfl) ?_ (fun hHeld=>?_)
   ·exact⟨hc2,n2⟩
   refine Xz [0,1,2,3,4,5,6] 4 (by rfl) (by kernel_rfl) (by kernel_rfl) (fun _ _ d _ _ h=>by cases d<;>exact h) (by assumption) ?_;simp only[Z1,Z2,Z3,Zw,Zx];repeat(refine Xw (v:=?_) (by kernel_rfl) ?_ ?_;rotate_left;(focus((intro w hSw;(try dsimp only at hSw);go_simp);(first|done|(with_reducible rfl))));(try simp only[Act.put]);(try simp only[Zv]))
   refine Xv ?_;refine Zlp (rs:=[7]) (by kernel_rfl) (by simp) ?_;refine Yt (o:=_) rfl (fun K hK=>?_) Ys;go_simp;refine(Pb _ l n.k _ (Rd.drew Hka.o)).mono ?_;rintro x w3 ⟨rfl,hx3⟩;unfold rcV;have hxa:Ext W1 w3:=(Yn W1).drew.trans hx3;have hbW:b<W1.heap.size:=Hm1.o.lt;have hnW:nb<W1.heap.size:=by have:=Hs1.o;omega
   have hc2a:=(hxa.cell (p:=⟨b,2,none⟩) hbW).trans hc2;have n2a:=(hxa.cell (p:=⟨nb,2,none⟩) hnW).trans n2;clear hx3 hc2 n2;dsimp only;refine hK.out _ _ ⟨hc2a,n2a⟩ (fun hHeld=>?_);clear hK K;try simp only[Act.put,Zv,Zu,Zt]
   refine Zlp (rs:=[8]) (by kernel_rfl) (by simp) ?_;refine Yt (o:=_) rfl (fun K hK=>?_) Ys;go_simp;have hxb:Ext W1 (w3.alloc (.cells #[.int .i64 (Vx l n.k).st,.int .i64 (Vx l n.k).ow,.string (Vx l n.k).nm,.int .i64 (Vx l n.k).dl] 51)):=hxa.alloc _;have hrl:=Va w3 #[.int .i64 (Vx l n.k).st,.int .i64 (Vx l n.k).ow,.string (Vx l n.k).nm,.int .i64 (Vx l n.k).dl] 51 4 (by rfl);have hc2b:=((Yn w3).alloc (.cells #[.int .i64 (Vx l n.k).st,.int .i64 (Vx l n.k).ow,.string (Vx l n.k).nm,.int .i64 (Vx l n.k).dl] 51)).cell (p:=⟨b,2,none⟩) (Zlr hbW hxa.size) |>.trans hc2a;have n2b:=((Yn w3).alloc (.cells #[.int .i64 (Vx l n.k).st,.int .i64 (Vx l n.k).ow,.string (Vx l n.k).nm,.int .i64 (Vx l n.k).dl] 51)).cell (p:=⟨nb,2,none⟩) (Zlr hnW hxa.size) |>.trans n2a;have hbz:w1.heap.size≤(w3.alloc (.cells #[.int .i64 (Vx l n.k).st,.int .i64 (Vx l n.k).ow,.string (Vx l n.k).nm,.int .i64 (Vx l n.k).dl] 51)).heap.size:=Zlo (Zlo Hx.o.size HA1.o.size) hxb.size;have Hxb:=Ya hxb;have Hrl:=Ya hrl;have Hbz:=Ya hbz;refine hK.out _ _ ⟨hc2b,n2b⟩ (fun hHeld=>?_);clear hK K hxa hxb hrl hbz hc2a n2a;try simp only[Act.put,Zv,Zu,Zt]
   refine Zlp (rs:=[9]) (by kernel_rfl) (by simp) ?_;refine Yt (o:=_) rfl (fun K hK=>?_) Ys;obtain⟨j0,hj,hj0,hj1,hj2⟩:=Zll Jq;refine J8 _ (by rfl) (.tmp 37) (.tmp 45) 25 (by rfl) w1.heap.size 51 j0 _ 4 40 Er hj hj0 hj1 hj2 (by rfl) (by decide) (.slice la i lc) i (Ji ((ns.take i).map fun n=>Vx l n.k)) (by rfl) (Kg Hown.o (HA1.o.trans Hxb.o)) (fun _=>True) (.slice (some ⟨w3.heap.size,0,none⟩) 1 1) 1 [.int .i64 (Vx l n.k).st,.int .i64 (Vx l n.k).ow,.string (Vx l n.k).nm,.int .i64 (Vx l n.k).dl] (by rfl) Hrl.o (by simp[Value.oneCell']) (by unfold maxLen;omega) (by omega) Hbz.o ?_;intro v' w4 ha;have hcg:Chg (fun k=>w1.heap.size≤k∧k<nb) _ w4:=(Chg.refl _ _).grown ha.grown (fun k hk=>.inl (by have:=Hown.o.lt k hk;have:=Hnb.o;omega));have hx4:Ext w1 w4:=((Hx.o.trans HA1.o).trans Hxb.o).chg_new hcg fun k hk=>hk.1
   have hend:w4.ownsRow w1.heap.size 51 4 v' (i+1) (Ji ((ns.take (i+1)).map fun n=>Vx l n.k)):=by
    rw[take_at Hni.o,Z9,Zl9,Zku,Ed];exact ha.own
   have n24:=(hcg.cell (p:=⟨nb,2,none⟩) (Zlr hnW Hxb.o.size) (by simp only;omega)).trans n2b;have hb1:b<w1.heap.size:=by omega
   have hc24:=(hcg.cell (p:=⟨b,2,none⟩) (Zlr hbW Hxb.o.size) (by simp only;omega)).trans hc2b;have Hend:=Ya hend;have Hx4:=Ya hx4;go_simp;refine hK.out _ _ ⟨hc24,n24⟩ (fun hHeld=>?_);clear hK K hcg hx4 hend n24 ha n2b hc2b hc24;try simp only[Act.put,Zv,Zu,Zt]
   refine Zkh (i:=10) (oi:=_) (v:=?_) rfl (by kernel_rfl) (by kernel_rfl) (by kernel_rfl) (fun _ _ _ h=>h) (Or.inl ⟨by rfl,?_⟩) (by assumption) ?_;rotate_left;(focus((intro w hSw;(try dsimp only at hSw);go_simp);(first|done|(with_reducible rfl))));(try simp only[Act.put]);(try simp only[Zv]);refine Zlb (by kernel_rfl) ?_ _;go_simp;obtain⟨a3,c3,hv3⟩:=Xf Hend.o;subst hv3;clear hHeld;go_wp2_with fail;go_roundw;case rel=>exact⟨i+1,by omega,by go_num,Hend.o,Hx4.o⟩
   simp[intOf];omega
  have hdc:decide ((i:Int)<(nn:Int))=false:=by simp;omega
  obtain rfl:nn=i:=by omega
  have hrecs:Q6 wr (fun k=>w1.heap.size≤k) (.slice la nn lc) ((Vs l ns).map Prod.snd):=by
   have h1:=Hown.o;rw[Zm (by rw[Hnn.o];exact Yp _)]at h1;have e1:(Vs l ns).map Prod.snd=ns.map fun n=>Vx l n.k:=by simp[Vs,Zjy,Zjk]
   have e2:(ns.map fun n=>Vx l n.k).length=nn:=by rw[Zq];exact Hnn.o
   rw[e1];unfold Q6;rw[e2];exact Rd.of_own h1 fun k hk=>(h1.lt k hk).1
  have hps:(Vs l ns).map Prod.fst=ns:=by simp[Vs,Zjy,Zjk]
  have hm1:=H.o.ext Hxw.o;obtain⟨lv,hc2,hka⟩:=hm1.c2;obtain⟨kA,kC,rfl⟩:=hka.shape;have Hrecs:=Ya hrecs;have Hps:=Ya hps;have Hm1:=Ya hm1;have Hc2:=Ya hc2;clear hrecs hps hm1 hka hc2;have hnI:Wf wr S (.slice A nn cA) ((Vs l ns).map Prod.fst):=by
   rw[Hps.o,← Hnn.o];exact Hn.o.ext Hxw.o
  have HnI:=Ya hnI;have hbw:b<wr.heap.size:=Hm1.o.lt;have hSx:∀ w',Ext wr w'→(w'.cell? ⟨b,0,none⟩=some (.int .i64 cl)∧w'.cell? ⟨b,1,none⟩=some (.int .i64 cap)∧w'.cell? ⟨b,2,none⟩=some (.slice kA l.length kC)):=fun w' x=>⟨(x.cell (p:=⟨b,0,none⟩) hbw).trans Hm1.o.c0,(x.cell (p:=⟨b,1,none⟩) hbw).trans Hm1.o.c1,(x.cell (p:=⟨b,2,none⟩) hbw).trans Hc2.o⟩
  have HSx:=Ya hSx;clear hnI hSx;go_upto_region 9 with fail;go_cut [16] (fun p wx=>Zvv cap op client ttl now l ns wr p wx);case first =>
   rename_i J1 K1 hJ hM;refine Zli (S:=fun w'=>w'.cell? ⟨b,0,none⟩=some (.int .i64 cl)∧w'.cell? ⟨b,1,none⟩=some (.int .i64 cap)∧w'.cell? ⟨b,2,none⟩=some (.slice kA l.length kC)) (by kernel_rfl) ?_ (fun hHeld=>?_)
   ·exact HSx.o _ (Yn wr).drew
   refine Xz [0,1,2,3,4,5,6,7,8,9,10,11,12,13,14] 3 (by rfl) (by kernel_rfl) (by kernel_rfl) (fun _ _ d _ _ h=>by cases d<;>exact h) (by assumption) ?_;simp only[Z1,Z2,Z3,Zw,Zx];repeat(refine Xw (v:=?_) (by kernel_rfl) ?_ ?_;rotate_left;(focus((intro w hSw;(try dsimp only at hSw);go_simp);(first|done|(with_reducible rfl))));(try simp only[Act.put]);(try simp only[Zv]))
   refine Xv ?_;refine Zlp (rs:=[15,16]) (by kernel_rfl) (by simp) ?_;refine Yt (o:=_) rfl (fun K hK=>?_) (Yt (o:=_) rfl (fun K hK=>?_) Ys)
   ·go_simp;refine(Sr cl cap l.length client op ttl now _ _ (Vs l ns) wr.drew (by rw[Hps.o];exact Hp.o) (by omega) (by omega) (HnI.o.ext (Yn wr).drew) (Rd.ext Hrecs.o (Yn wr).drew)).mono ?_;rintro x w3 ⟨rfl,hx3⟩;obtain⟨R,hR⟩:=gnX (Wh cap op client ttl now l.length (Vs l ns));rw[hR];unfold Wy;have HR:=Ya hR;have Hx3:=Ya ((Yn wr).drew.trans hx3);clear hx3 hR;dsimp only;refine hK.out _ _ (HSx.o _ Hx3.o) (fun hHeld=>?_);clear hK K;try simp only[Act.put,Zv,Zu,Zt]
    refine Zlp (rs:=[16]) (by kernel_rfl) (by simp) ?_;refine Yt (o:=_) rfl (fun K hK=>?_) Ys;go_simp;refine hK.out _ _ (HSx.o _ (Hx3.o.alloc _)) (fun hHeld=>?_);clear hK K;try simp only[Act.put,Zv,Zu,Zt]
    refine Zlp (rs:=[17]) (by kernel_rfl) (by simp) ?_;refine Yt (o:=_) rfl (fun K hK=>?_) Ys;go_simp;refine hK.out _ _ (HSx.o _ (Hx3.o.alloc _)) (fun hHeld=>?_);clear hK K;try simp only[Act.put,Zv,Zu,Zt]
    refine Zlb (by kernel_rfl) ?_ _;go_simp;refine hM _ _ (hJ _ _ ?_);have hxa:Ext w3 (w3.alloc (.cells #[.int .i64 R.e,.int .i64 R.at_,.string R.nm,.int .i64 R.rc.st,.int .i64 R.rc.ow,.string R.rc.nm,.int .i64 R.rc.dl,.int .i64 R.tick] 53)):=(Yn w3).alloc _;have hfin:Zvv cap op client ttl now l ns wr (.pointer (some ⟨w3.heap.size,0,none⟩)) (w3.alloc (.cells #[.int .i64 R.e,.int .i64 R.at_,.string R.nm,.int .i64 R.rc.st,.int .i64 R.rc.ow,.string R.rc.nm,.int .i64 R.rc.dl,.int .i64 R.tick] 53)) :=
     ⟨_,rfl,by rw[HR.o];exact Zyi w3 R,Hx3.o.size,Hx3.o.trans hxa⟩
    clear hHeld;(repeat apply Exists.intro)
    exact⟨hfin,rfl⟩
   go_simp;have hxz:Ext wr (wr.alloc (.cells #[.int .i64 0,.int .i64 0,.string ⟨#[]⟩,.int .i64 0,.int .i64 0,.string ⟨#[]⟩,.int .i64 0,.int .i64 0] 53)):=(Yn wr).alloc _;have hrz:=De wr;have hsz:(wr.alloc (.cells #[.int .i64 0,.int .i64 0,.string ⟨#[]⟩,.int .i64 0,.int .i64 0,.string ⟨#[]⟩,.int .i64 0,.int .i64 0] 53)).heap.size=wr.heap.size+1:=by simp
   obtain⟨W2,hW2⟩:=gnX (wr.alloc (.cells #[.int .i64 0,.int .i64 0,.string ⟨#[]⟩,.int .i64 0,.int .i64 0,.string ⟨#[]⟩,.int .i64 0,.int .i64 0] 53));rw[hW2]at hxz hrz hsz;rw[hW2];obtain⟨rb2,hrb2⟩:=gnX (wr.heap.size);rw[hrb2]at hrz hsz hbw;rw[hrb2];have Hxz:=Ya hxz;have Hrz:=Ya hrz;have Hsz:=Ya hsz;have Hrb2:=Ya hrb2;clear hW2 hxz hrz hsz hrb2;refine hK.out _ _ (HSx.o _ Hxz.o.drew) (fun hHeld=>?_);clear hK K;try simp only[Act.put,Zv,Zu,Zt]
   refine Zlp (rs:=[15]) (by kernel_rfl) (by simp) ?_;refine Yt (o:=_) rfl (fun K hK=>?_) Ys;go_simp;refine(Sr cl cap l.length client op ttl now _ _ (Vs l ns) W2.drew (by rw[Hps.o];exact Hp.o) (by omega) (by omega) (HnI.o.ext Hxz.o.drew) (Rd.ext Hrecs.o Hxz.o.drew)).mono ?_;rintro x w3 ⟨rfl,hx3⟩;obtain⟨R,hR⟩:=gnX (Wh cap op client ttl now l.length (Vs l ns));rw[hR];unfold Wy;have HR:=Ya hR;have Hx3:=Ya ((Yn W2).drew.trans hx3);clear hx3 hR;dsimp only;refine hK.out _ _ (HSx.o _ (Hxz.o.trans Hx3.o)) (fun hHeld=>?_);clear hK K;try simp only[Act.put,Zv,Zu,Zt]
   obtain⟨z0,z1,z2,z3,z4,z5,z6,z7,zf,zl⟩:=Hrz.o.ext Hx3.o;refine Zlp (rs:=[17]) (by kernel_rfl) (by simp) ?_;refine Yt (o:=_) rfl (fun K hK=>?_) Ys;go_simp;have hcgb:Ext wr ((((((((w3.setCell ⟨rb2,0,none⟩ (.int .i64 R.e)).setCell ⟨rb2,1,none⟩ (.int .i64 R.at_)).setCell ⟨rb2,2,none⟩ (.string R.nm)).setCell ⟨rb2,3,none⟩ (.int .i64 R.rc.st)).setCell ⟨rb2,4,none⟩ (.int .i64 R.rc.ow)).setCell ⟨rb2,5,none⟩ (.string R.rc.nm)).setCell ⟨rb2,6,none⟩ (.int .i64 R.rc.dl)).setCell ⟨rb2,7,none⟩ (.int .i64 R.tick)):=by
    (repeat refine Yc ?_ (by rw[Hrb2.o];exact Yp _) _)
    exact Hxz.o.trans Hx3.o
   have hresp:Dt ((((((((w3.setCell ⟨rb2,0,none⟩ (.int .i64 R.e)).setCell ⟨rb2,1,none⟩ (.int .i64 R.at_)).setCell ⟨rb2,2,none⟩ (.string R.nm)).setCell ⟨rb2,3,none⟩ (.int .i64 R.rc.st)).setCell ⟨rb2,4,none⟩ (.int .i64 R.rc.ow)).setCell ⟨rb2,5,none⟩ (.string R.rc.nm)).setCell ⟨rb2,6,none⟩ (.int .i64 R.rc.dl)).setCell ⟨rb2,7,none⟩ (.int .i64 R.tick)) rb2 R:=by
    constructor<;>first|go_simp|(simp[World.setCell];omega)
   have hfin:Zvv cap op client ttl now l ns wr (.pointer (some ⟨rb2,0,none⟩)) ((((((((w3.setCell ⟨rb2,0,none⟩ (.int .i64 R.e)).setCell ⟨rb2,1,none⟩ (.int .i64 R.at_)).setCell ⟨rb2,2,none⟩ (.string R.nm)).setCell ⟨rb2,3,none⟩ (.int .i64 R.rc.st)).setCell ⟨rb2,4,none⟩ (.int .i64 R.rc.ow)).setCell ⟨rb2,5,none⟩ (.string R.rc.nm)).setCell ⟨rb2,6,none⟩ (.int .i64 R.rc.dl)).setCell ⟨rb2,7,none⟩ (.int .i64 R.tick)) :=
    ⟨_,rfl,by rw[HR.o];exact hresp,by rw[Hrb2.o];exact Yp _,hcgb⟩
   refine hK.out _ _ (HSx.o _ hcgb) (fun hHeld=>?_);clear hK K;try simp only[Act.put,Zv,Zu,Zt]
   refine Zlb (by kernel_rfl) ?_ _;go_simp;refine hM _ _ (hJ _ _ ?_);clear hHeld hcgb hresp;(repeat apply Exists.intro)
   exact⟨hfin,rfl⟩
  obtain⟨rb2,rfl,hresp,hrb2,hxc⟩:=hcut;obtain⟨R,hR⟩:=gnX (Wh cap op client ttl now l.length (Vs l ns));rw[hR]at hresp;have hdoR:doR cl cap l client op ttl now ns=R:=by unfold doR;rw[Zlm Hpb.o,hR]
  have HdoR:=Ya hdoR;have hx1c:Ext w1 wc:=Hx.o.trans hxc;have hxw:Ext w wc:=Hx1.o.trans hx1c;have Hxc:=Ya hxw;have Hm2:=Ya (show Vm wc (fun k=>b<k∧k≠rb) b cl cap l from by
   obtain⟨v5,h5,h6⟩:=H.o.c2;have h7:Vm w (fun k=>b<k∧k≠rb) b cl cap l:=⟨H.o.c0,H.o.c1,⟨v5,h5,Rd.mono h6 fun k hk hlt=>⟨hk,by have:=Hrb.o;omega⟩⟩,H.o.fz,H.o.lt,by omega⟩;exact h7.ext hxw)
  have Hn2:=Ya (Hn.o.ext hxw);have Hz2:=Ya (Hz1.o.ext hx1c);have Hr2:=Ya (Rd.ext Hrecs.o hxc);have Hresp:=Ya hresp;have r0:=hresp.z0;have hbrb:b<rb:=hbl;have hb1:b<w1.heap.size:=by omega
  have hbr2:b<rb2:=by have:=Hx.o.size;omega
  have hww:w.heap.size≤wc.heap.size:=hxw.size;have hbW:b<w.heap.size:=H.o.lt;have hwrap:IntKind.i64.wrap (now+ttl)=now+ttl:=by
   have hP:=Hp.o;have h1:=hP.n0;have h2:=hP.n1;have h3:0≤ttl∧ttl≤1073741824:=by
    cases ht:Wx op with
    | true=>have:=hP.t1 ht;omega
    | false=>have:=hP.t0 ht;omega
   exact Yr _ (by omega)
  clear hdoR hxw hresp hxc hx1c;by_cases h0:R.e=0
  ·have hdoL:doL cl cap l client op ttl now ns=Ks op client (now+ttl) l (Vs l ns):=by unfold doL;rw[Zlm ⟨Hpb.o,by rw[hR];exact h0⟩]
   have HdoL:=Ya hdoL;have e1:(R.e==0)=true:=by simp[h0]
   have H0:=Ya h0;have hlw:(Vs l ns).length=nn:=by rw[Tb];exact Hnn.o
   clear hdoL hR h0;go_wp2_with fail;go_loopw [69] (fun o wr=>∃ i:Nat,i≤nn∧o=.int .i64 (i:Int)∧Vm wr (fun k=>b<k∧k≠rb) b cl cap (Ks op client (now+ttl) l ((Vs l ns).take i))∧Chg (· = b) wc wr) (fun o _=>nn-(intOf o).toNat);case atStart=>exact⟨0,by omega,rfl,Hm2.o,Chg.refl _ _⟩
   obtain⟨i,hi2,rfl,hmd,hcg⟩:=hrel;have Hmd:=Ya hmd;have Hcg:=Ya hcg;have hbwr:=hmd.lt;clear hmd hcg r0;by_cases hlt2:i<nn
   ·have hdc2:decide ((i:Int)<(nn:Int))=true:=by simpa using hlt2
    obtain⟨n,hni⟩:∃ n,ns[i]?=some n:=⟨ns[i]'(by have:=Hnn.o;omega),by simp⟩;have hwi:=Zpt (l:=l) hni;have hqr:((Vs l ns).map Prod.snd)[i]?=some (Vx l n.k):=by rw[Zn,hwi];rfl
    obtain⟨r,hr⟩:=gnX (Vx l n.k);rw[hr]at hqr hwi;obtain⟨g2,o2,c2',hv2,p3,p4,b2,y0,y1,y2,y3⟩:=V3 (Rd.chg Hr2.o Hcg.o (fun k hk e=>by omega)) hqr;have hgb2:¬ g2=b:=by
     obtain⟨g5,o5,c5,hv5,_,_,hS5,_⟩:=Rd.at_ Hr2.o (k:=i) (by rw[Zq,hlw];exact hlt2);rw[hv5]at hv2;simp only[Yg,Yf,Zlh]at hv2;omega
    rw[Zq,hlw]at hv2 p3;obtain⟨g,o,c',hv,p1,p2,hSg,b1,hcell⟩:=Wf.get (Rd.chg Hn2.o Hcg.o fun k hk e=>HS.o (e▸hk)) (j:=i) ((Zr.1 hni).1);rw[Hnn.o]at hv p1;simp only[Yg,Zlc]at hv hv2;obtain⟨rfl,rfl⟩:=hv;obtain⟨rfl,rfl⟩:=hv2;obtain⟨x1,x2,x3⟩:=hcell _ _ hni;have i0:(0:Int)≤(i:Int):=by omega
    have i1:(i:Int)<(nn:Int):=by omega
    have Hwi:=Ya hwi;obtain⟨li,hli⟩:=gnX (Ks op client (now+ttl) l ((Vs l ns).take i));have hlil:li.length≤100000:=by rw[← hli];have:=Lh op client (now+ttl) ((Vs l ns).take i) l;rw[Zp]at this;omega
    have hmd:=Hmd.o;rw[hli]at hmd;have Hli:=Ya hli;have Hmd2:=Ya hmd;clear hcell hni hqr hwi hr hli hmd Hmd p3 p1;go_upto_region 14 with fail;have hA1:Ext wr (wr.alloc (.cells #[.string n.a,.string n.u,.string n.k] 109)):=(Yn wr).alloc _;have n0:(wr.alloc (.cells #[.string n.a,.string n.u,.string n.k] 109)).cell? ⟨wr.heap.size,0,none⟩=some (.string n.a):=by go_simp
    have n2:(wr.alloc (.cells #[.string n.a,.string n.u,.string n.k] 109)).cell? ⟨wr.heap.size,2,none⟩=some (.string n.k):=by go_simp
    have hs1:(wr.alloc (.cells #[.string n.a,.string n.u,.string n.k] 109)).heap.size=wr.heap.size+1:=by simp
    obtain⟨W1,hW1⟩:=gnX (wr.alloc (.cells #[.string n.a,.string n.u,.string n.k] 109));rw[hW1]at hA1 n0 n2 hs1;rw[hW1];obtain⟨nb,hnb⟩:=gnX (wr.heap.size);rw[hnb]at n0 n2 hs1;rw[hnb];have hm1:=Hmd2.o.ext hA1;obtain⟨lv,hc2,hka⟩:=hm1.c2;obtain⟨kA,kC,rfl⟩:=hka.shape;replace y0:=(hA1.cell (p:=⟨g2,o2+i*4,none⟩) b2).trans y0;replace y1:=(hA1.cell (p:=⟨g2,o2+i*4+1,none⟩) b2).trans y1;replace y2:=(hA1.cell (p:=⟨g2,o2+i*4+2,none⟩) b2).trans y2;replace y3:=(hA1.cell (p:=⟨g2,o2+i*4+3,none⟩) b2).trans y3;have b3:=Zlr b2 hA1.size;have hbW1:b<W1.heap.size:=hm1.lt;have hrW1:rb<W1.heap.size:=by have:=Hz2.o.lt;have:=Hcg.o.size;have:=hA1.size;omega
    have hnb2:¬ nb=b:=by omega
    have hnW1:nb<W1.heap.size:=by omega
    have HA1:=Ya hA1;have Hka:=Ya hka;clear hW1 hA1 hm1 x1 x2 x3 hka b2 hnb hs1;refine Zli (S:=fun w'=>w'.cell? ⟨nb,0,none⟩=some (.string n.a)∧w'.cell? ⟨nb,2,none⟩=some (.string n.k)∧w'.cell? ⟨g2,o2+i*4,none⟩=some (.int .i64 r.st)∧w'.cell? ⟨g2,o2+i*4+1,none⟩=some (.int .i64 r.ow)∧w'.cell? ⟨g2,o2+i*4+2,none⟩=some (.string r.nm)∧w'.cell? ⟨g2,o2+i*4+3,none⟩=some (.int .i64 r.dl)) (by kernel_rfl) ?_ (fun hHeld=>?_)
    ·exact⟨n0,n2,y0,y1,y2,y3⟩
    refine Xz [0,1,2,3,5,6,7,8,9,10,11,12,13,14,15,16,17] 6 (by rfl) (by kernel_rfl) (by kernel_rfl) (fun _ _ d _ _ h=>by cases d<;>exact h) (by assumption) ?_;simp only[Z1,Z2,Z3,Zw,Zx];repeat(refine Xw (v:=?_) (by kernel_rfl) ?_ ?_;rotate_left;(focus((intro w hSw;(try dsimp only at hSw);go_simp);(first|done|(with_reducible rfl))));(try simp only[Act.put]);(try simp only[Zv]))
    refine Xv ?_;refine Zlp (rs:=[4,18]) (by kernel_rfl) (by simp) ?_;refine Yt (o:=_) rfl (fun K hK=>?_) (Yt (o:=_) rfl (fun K hK=>?_) Ys)
    ·go_simp;refine hK.out _ _ ⟨n0,n2,y0,y1,y2,y3⟩ (fun hHeld=>?_);clear hK K;try simp only[Act.put,Zv,Zu,Zt]
     refine Zlp (rs:=[18]) (by kernel_rfl) (by simp) ?_;refine Yt (o:=_) rfl (fun K hK=>?_) Ys;go_simp;refine(Dw _ _ _ _ _ _ _ _ _).mono ?_;rintro e w5 ⟨rfl,hx5⟩;replace hx5:=(Yn W1).drew.trans hx5;replace hc2:=(hx5.cell (p:=⟨b,2,none⟩) hbW1).trans hc2;replace n0:=(hx5.cell (p:=⟨nb,0,none⟩) hnW1).trans n0;replace n2:=(hx5.cell (p:=⟨nb,2,none⟩) hnW1).trans n2;replace y0:=(hx5.cell (p:=⟨g2,o2+i*4,none⟩) b3).trans y0;replace y1:=(hx5.cell (p:=⟨g2,o2+i*4+1,none⟩) b3).trans y1;replace y2:=(hx5.cell (p:=⟨g2,o2+i*4+2,none⟩) b3).trans y2;replace y3:=(hx5.cell (p:=⟨g2,o2+i*4+3,none⟩) b3).trans y3;replace hbW1:=Zlr hbW1 hx5.size;replace hrW1:=Zlr hrW1 hx5.size;replace hnW1:=Zlr hnW1 hx5.size;replace b3:=Zlr b3 hx5.size;have Hx5:=Ya hx5;clear hx5;dsimp only;refine hK.out _ _ ⟨n0,n2,y0,y1,y2,y3⟩ (fun hHeld=>?_);clear hK K;try simp only[Act.put,Zv,Zu,Zt]
     refine Zlp (rs:=[19]) (by kernel_rfl) (by simp) ?_;refine Yt (o:=_) rfl (fun K hK=>?_) Ys;go_simp;refine(Uj _ li n.k (Q7 op client (now+ttl) n r) _ (Rd.ext Hka.o Hx5.o) hlil).mono ?_;rintro e w6 ⟨v6,rfl,ho6,hx6⟩;obtain⟨A6,C6,hv6⟩:=Xf ho6;subst hv6;have hb5:=hbW1;have hr5:=hrW1;replace hc2:=(hx6.cell (p:=⟨b,2,none⟩) hbW1).trans hc2;replace n0:=(hx6.cell (p:=⟨nb,0,none⟩) hnW1).trans n0;replace n2:=(hx6.cell (p:=⟨nb,2,none⟩) hnW1).trans n2;replace y0:=(hx6.cell (p:=⟨g2,o2+i*4,none⟩) b3).trans y0;replace y1:=(hx6.cell (p:=⟨g2,o2+i*4+1,none⟩) b3).trans y1;replace y2:=(hx6.cell (p:=⟨g2,o2+i*4+2,none⟩) b3).trans y2;replace y3:=(hx6.cell (p:=⟨g2,o2+i*4+3,none⟩) b3).trans y3;replace hbW1:=Zlr hbW1 hx6.size;replace hrW1:=Zlr hrW1 hx6.size;replace hnW1:=Zlr hnW1 hx6.size;replace b3:=Zlr b3 hx6.size;have Hx6:=Ya (HA1.o.trans (Hx5.o.trans hx6));have Ho6:=Ya ho6;clear hx6 ho6 Hka;dsimp only;refine hK.out _ _ ⟨n0,n2,y0,y1,y2,y3⟩ (fun hHeld=>?_);clear hK K;try simp only[Act.put,Zv,Zu,Zt]
     refine Xz [20,21] 1 (by rfl) (by kernel_rfl) (by kernel_rfl) (fun _ _ d _ _ h=>by cases d<;>exact h) (by assumption) ?_;simp only[Z1,Z2,Z3,Zw,Zx];repeat(refine Xw (v:=?_) (by kernel_rfl) ?_ ?_;rotate_left;(focus((intro w hSw;(try dsimp only at hSw);go_simp);(first|done|(with_reducible rfl))));(try simp only[Act.put]);(try simp only[Zv]))
     refine Xv ?_;have f2:w6.frozen? ⟨b,2,none⟩=false:=(Hx6.o.frozen (p:=⟨b,2,none⟩) hbwr).trans (Hmd2.o.fz 2);refine Zlp (rs:=[22]) (by kernel_rfl) (by simp) ?_;refine Yt (o:=_) rfl (fun K hK=>?_) Ys;go_simp;have hcs:Chg (· = b) w6 (w6.setCell ⟨b,2,none⟩ (.slice A6 (Ko li n.k (Q7 op client (now+ttl) n r)).length C6)):=(Chg.refl (· = b) w6).setCell (p:=⟨b,2,none⟩) (.inl rfl) (.slice A6 (Ko li n.k (Q7 op client (now+ttl) n r)).length C6);replace n0:=(hcs.cell (p:=⟨nb,0,none⟩) hnW1 hnb2).trans n0;replace n2:=(hcs.cell (p:=⟨nb,2,none⟩) hnW1 hnb2).trans n2;replace y0:=(hcs.cell (p:=⟨g2,o2+i*4,none⟩) b3 hgb2).trans y0;replace y1:=(hcs.cell (p:=⟨g2,o2+i*4+1,none⟩) b3 hgb2).trans y1;replace y2:=(hcs.cell (p:=⟨g2,o2+i*4+2,none⟩) b3 hgb2).trans y2;replace y3:=(hcs.cell (p:=⟨g2,o2+i*4+3,none⟩) b3 hgb2).trans y3;have Hmd6:=Ya (Vm.set Hmd2.o Hx6.o Ho6.o fun k hk=>⟨by omega,by omega⟩);have Hcg6:=Ya (Hcg.o.trans ((Hx6.o.chg (· = b)).trans hcs));refine hK.out _ _ ⟨n0,n2,y0,y1,y2,y3⟩ (fun hHeld=>?_);clear hK K hcs n0 n2 y0 y1 y2 y3 hc2;try simp only[Act.put,Zv,Zu,Zt]
     refine Zlb (by kernel_rfl) ?_ _;go_simp;clear hHeld;go_wp2_with fail;go_roundw;case rel=>exact⟨i+1,by omega,by go_num,by rw[take_at Hwi.o,Lg,Hli.o];exact Hmd6.o,Hcg6.o⟩
     simp[intOf];omega
    go_simp;refine(Dw _ _ _ _ _ _ _ _ _).mono ?_;rintro e w5 ⟨rfl,hx5⟩;replace hx5:=(Yn W1).drew.trans hx5;replace hc2:=(hx5.cell (p:=⟨b,2,none⟩) hbW1).trans hc2;replace n0:=(hx5.cell (p:=⟨nb,0,none⟩) hnW1).trans n0;replace n2:=(hx5.cell (p:=⟨nb,2,none⟩) hnW1).trans n2;replace y0:=(hx5.cell (p:=⟨g2,o2+i*4,none⟩) b3).trans y0;replace y1:=(hx5.cell (p:=⟨g2,o2+i*4+1,none⟩) b3).trans y1;replace y2:=(hx5.cell (p:=⟨g2,o2+i*4+2,none⟩) b3).trans y2;replace y3:=(hx5.cell (p:=⟨g2,o2+i*4+3,none⟩) b3).trans y3;replace hbW1:=Zlr hbW1 hx5.size;replace hrW1:=Zlr hrW1 hx5.size;replace hnW1:=Zlr hnW1 hx5.size;replace b3:=Zlr b3 hx5.size;have Hx5:=Ya hx5;clear hx5;dsimp only;refine hK.out _ _ ⟨n0,n2,y0,y1,y2,y3⟩ (fun hHeld=>?_);clear hK K;try simp only[Act.put,Zv,Zu,Zt]
    refine Zlp (rs:=[4]) (by kernel_rfl) (by simp) ?_;refine Yt (o:=_) rfl (fun K hK=>?_) Ys;go_simp;refine hK.out _ _ ⟨n0,n2,y0,y1,y2,y3⟩ (fun hHeld=>?_);clear hK K;try simp only[Act.put,Zv,Zu,Zt]
    refine Zlp (rs:=[19]) (by kernel_rfl) (by simp) ?_;refine Yt (o:=_) rfl (fun K hK=>?_) Ys;go_simp;refine(Uj _ li n.k (Q7 op client (now+ttl) n r) _ (Rd.ext Hka.o Hx5.o) hlil).mono ?_;rintro e w6 ⟨v6,rfl,ho6,hx6⟩;obtain⟨A6,C6,hv6⟩:=Xf ho6;subst hv6;have hb5:=hbW1;have hr5:=hrW1;replace hc2:=(hx6.cell (p:=⟨b,2,none⟩) hbW1).trans hc2;replace n0:=(hx6.cell (p:=⟨nb,0,none⟩) hnW1).trans n0;replace n2:=(hx6.cell (p:=⟨nb,2,none⟩) hnW1).trans n2;replace y0:=(hx6.cell (p:=⟨g2,o2+i*4,none⟩) b3).trans y0;replace y1:=(hx6.cell (p:=⟨g2,o2+i*4+1,none⟩) b3).trans y1;replace y2:=(hx6.cell (p:=⟨g2,o2+i*4+2,none⟩) b3).trans y2;replace y3:=(hx6.cell (p:=⟨g2,o2+i*4+3,none⟩) b3).trans y3;replace hbW1:=Zlr hbW1 hx6.size;replace hrW1:=Zlr hrW1 hx6.size;replace hnW1:=Zlr hnW1 hx6.size;replace b3:=Zlr b3 hx6.size;have Hx6:=Ya (HA1.o.trans (Hx5.o.trans hx6));have Ho6:=Ya ho6;clear hx6 ho6 Hka;dsimp only;refine hK.out _ _ ⟨n0,n2,y0,y1,y2,y3⟩ (fun hHeld=>?_);clear hK K;try simp only[Act.put,Zv,Zu,Zt]
    refine Xz [20,21] 1 (by rfl) (by kernel_rfl) (by kernel_rfl) (fun _ _ d _ _ h=>by cases d<;>exact h) (by assumption) ?_;simp only[Z1,Z2,Z3,Zw,Zx];repeat(refine Xw (v:=?_) (by kernel_rfl) ?_ ?_;rotate_left;(focus((intro w hSw;(try dsimp only at hSw);go_simp);(first|done|(with_reducible rfl))));(try simp only[Act.put]);(try simp only[Zv]))
    refine Xv ?_;have f2:w6.frozen? ⟨b,2,none⟩=false:=(Hx6.o.frozen (p:=⟨b,2,none⟩) hbwr).trans (Hmd2.o.fz 2);refine Zlp (rs:=[22]) (by kernel_rfl) (by simp) ?_;refine Yt (o:=_) rfl (fun K hK=>?_) Ys;go_simp;have hcs:Chg (· = b) w6 (w6.setCell ⟨b,2,none⟩ (.slice A6 (Ko li n.k (Q7 op client (now+ttl) n r)).length C6)):=(Chg.refl (· = b) w6).setCell (p:=⟨b,2,none⟩) (.inl rfl) (.slice A6 (Ko li n.k (Q7 op client (now+ttl) n r)).length C6);replace n0:=(hcs.cell (p:=⟨nb,0,none⟩) hnW1 hnb2).trans n0;replace n2:=(hcs.cell (p:=⟨nb,2,none⟩) hnW1 hnb2).trans n2;replace y0:=(hcs.cell (p:=⟨g2,o2+i*4,none⟩) b3 hgb2).trans y0;replace y1:=(hcs.cell (p:=⟨g2,o2+i*4+1,none⟩) b3 hgb2).trans y1;replace y2:=(hcs.cell (p:=⟨g2,o2+i*4+2,none⟩) b3 hgb2).trans y2;replace y3:=(hcs.cell (p:=⟨g2,o2+i*4+3,none⟩) b3 hgb2).trans y3;have Hmd6:=Ya (Vm.set Hmd2.o Hx6.o Ho6.o fun k hk=>⟨by omega,by omega⟩);have Hcg6:=Ya (Hcg.o.trans ((Hx6.o.chg (· = b)).trans hcs));refine hK.out _ _ ⟨n0,n2,y0,y1,y2,y3⟩ (fun hHeld=>?_);clear hK K hcs n0 n2 y0 y1 y2 y3 hc2;try simp only[Act.put,Zv,Zu,Zt]
    refine Zlb (by kernel_rfl) ?_ _;go_simp;clear hHeld;go_wp2_with fail;go_roundw;case rel=>exact⟨i+1,by omega,by go_num,by rw[take_at Hwi.o,Lg,Hli.o];exact Hmd6.o,Hcg6.o⟩
    simp[intOf];omega
   have hdc2:decide ((i:Int)<(nn:Int))=false:=by simp;omega
   have hall:=Hmd.o;rw[Zm (by omega)]at hall;have HmE:=Ya hall;have HrE:=Ya (Hresp.o.chg Hcg.o (fun e=>by omega));have HzE:=Ya (Hz2.o.chg Hcg.o (fun e=>by omega));have HcE:=Ya ((Hxc.o.chg (· = b)).trans Hcg.o);clear hall Hmd Hcg Hz2 Hresp Hm2 hwrap;obtain⟨r0,r1,r2,r3,r4,r5,r6,r7,rl⟩:=HrE.o;obtain⟨z0,z1,z2,z3,z4,z5,z6,z7,zf,zl⟩:=HzE.o;clear HrE HzE;go_wp2_with fail;refine Yu (v:=Wy R) (by simp[results,Tryz.results30,go_sem,Wy, *]) rfl ⟨by rw[HdoR.o],?_,?_⟩
   ·rw[HdoL.o];refine Vm.low (S:=fun k=>b<k∧k≠rb) (Vm.chg (T:=(· = rb)) HmE.o ?_ (fun e=>by omega) (fun k hk e=>hk.2 e)) (fun k hk=>hk.1) (by omega);(repeat refine Chg.setCell (S:=(· = rb)) ?_ (.inl rfl) _)
    exact Chg.refl _ _
   refine Chg.then_new HcE.o (T:=(· = rb)) ?_ (fun k hk=>by have:=Hrb.o;omega);(repeat refine Chg.setCell (S:=(· = rb)) ?_ (.inl rfl) _)
   exact Chg.refl _ _
  have e1:(R.e==0)=false:=by simpa using h0
  have HdoL:=Ya (show doL cl cap l client op ttl now ns=l by unfold doL;rw[hR,Zlq fun q=>h0 q.2]);have HmE:=Ya Hm2.o;have HrE:=Ya Hresp.o;have HzE:=Ya Hz2.o;have HcE:=Ya (Hxc.o.chg (· = b));clear hR h0 Hz2 Hresp Hm2 hwrap;obtain⟨r0,r1,r2,r3,r4,r5,r6,r7,rl⟩:=HrE.o;obtain⟨z0,z1,z2,z3,z4,z5,z6,z7,zf,zl⟩:=HzE.o;clear HrE HzE;go_wp2_with fail;refine Yu (v:=Wy R) (by simp[results,Tryz.results30,go_sem,Wy, *]) rfl ⟨by rw[HdoR.o],?_,?_⟩
  ·rw[HdoL.o];refine Vm.low (S:=fun k=>b<k∧k≠rb) (Vm.chg (T:=(· = rb)) HmE.o ?_ (fun e=>by omega) (fun k hk e=>hk.2 e)) (fun k hk=>hk.1) (by omega);(repeat refine Chg.setCell (S:=(· = rb)) ?_ (.inl rfl) _)
   exact Chg.refl _ _
  refine Chg.then_new HcE.o (T:=(· = rb)) ?_ (fun k hk=>by have:=Hrb.o;omega);(repeat refine Chg.setCell (S:=(· = rb)) ?_ (.inl rfl) _)
  exact Chg.refl _ _
end Go.Proofs.YtnbclgbicnpmnaaGreat
