/- Lemmas of this claim: EntryR, First, Read. Conditions: as named. -/
import Derived.WalkMore
import Derived.Test.YtnbclgbicnpmnaaGreatA03
namespace Go.Proofs.YtnbclgbicnpmnaaGreat
open Go.RowKit Go.Sort Tryz
set_option maxHeartbeats 0
set_option maxRecDepth 100000
set_option linter.all false
theorem Oz(s:List UInt8):∀ (n t:Nat) (b:Bool),Va s (n+1) t b=((Va s n t b).1++[(Jd s (Va s n t b).2.1 (Va s n t b).2.2).1],(Jd s (Va s n t b).2.1 (Va s n t b).2.2).2.1,(Jd s (Va s n t b).2.1 (Va s n t b).2.2).2.2)
 | 0,t,b=>by simp[Va]
 | n+1,t,b=>by
  have h:=Oz s n (Jd s t b).2.1 (Jd s t b).2.2;rw[show Va s (n+1+1) t b=((Jd s t b).1::(Va s (n+1) (Jd s t b).2.1 (Jd s t b).2.2).1,(Va s (n+1) (Jd s t b).2.1 (Jd s t b).2.2).2.1,(Va s (n+1) (Jd s t b).2.1 (Jd s t b).2.2).2.2) from rfl,h];rfl
def Pq(w:World)(eb:Nat)(e:Ent)(v:Value):Prop :=
 eb<w.heap.size∧(∀ i,w.frozen? ⟨eb,i,none⟩=false)∧w.cell? ⟨eb,0,none⟩=some (.int .i64 e.cl)∧w.cell? ⟨eb,1,none⟩=some (.int .i64 e.op)∧w.cell? ⟨eb,2,none⟩=some (.int .i64 e.ttl)∧w.cell? ⟨eb,3,none⟩=some (.int .i64 e.tick)∧w.cell? ⟨eb,4,none⟩=some v
theorem Pq.chg{S:Nat→Prop}{w w':World}{eb:Nat}{e:Ent}{v:Value}(h:Pq w eb e v)(c:Chg S w w')(hb:¬ S eb):Pq w' eb e v:=by
 obtain⟨h1,h2,h3,h4,h5,h6,h7⟩:=h;exact⟨Zgp h1 c.size,fun i=>(c.frozen (p:=⟨eb,i,none⟩) h1 hb).trans (h2 i),(c.cell (p:=⟨eb,0,none⟩) h1 hb).trans h3,(c.cell (p:=⟨eb,1,none⟩) h1 hb).trans h4,(c.cell (p:=⟨eb,2,none⟩) h1 hb).trans h5,(c.cell (p:=⟨eb,3,none⟩) h1 hb).trans h6,(c.cell (p:=⟨eb,4,none⟩) h1 hb).trans h7⟩
theorem Pq.ext{w w':World}{eb:Nat}{e:Ent}{v:Value}(h:Pq w eb e v)(x:Ext w w'):Pq w' eb e v:=h.chg (x.chg (fun _=>False)) (fun h=>h)
def Ztd(body:ByteArray)(w:World)(x:Ending)(w':World):Prop :=
 Ext w w'∧((∃ e v,Zwv body.data.toList=some e∧x=.returned (.tuple #[Gn e v,.bool true])∧Wo w' (fun k=>w.heap.size≤k) v e.names)∨(Zwv body.data.toList=none∧∃ e A n c,x=.returned (.tuple #[Gn e (.slice A n c),.bool false])))
theorem Zom:prog.underlying 49=some (.slice 109):=by kernel_rfl
theorem Zr3:(prog.info? 109).map (fun i=>(i.zero,i.size,i.bytes))=some (some (.agg #[.string ⟨#[]⟩,.string ⟨#[]⟩,.string ⟨#[]⟩]),3,48):=by kernel_rfl
theorem Zpl(w:World)(x y z:ByteArray):Rd (w.alloc (.cells #[.string x,.string y,.string z] 109)) (fun _=>True) 3 (.slice (some ⟨w.heap.size,0,none⟩) 1 1) 1 [.string x,.string y,.string z]:=by
 have h1:(w.alloc (.cells #[.string x,.string y,.string z] 109)).heap[w.heap.size]?=some (.cells #[.string x,.string y,.string z] 109):=Zg3 w _;refine⟨by simp,_,_,rfl,Ym _,by unfold maxLen;omega,fun _=>⟨_,_,rfl,trivial,(Zgk.1 h1).1,fun j u hu=>?_⟩⟩;simp only[World.cell?,h1];rw[Zg7,← hu];simp
structure NSt(w w':World)(cb rb:Nat)(body:ByteArray)(t:Nat)(b:Bool):Prop where
 rdr:Km w' rb body t b
 res:Pq w' cb ⟨0,0,0,0,[]⟩ (.slice none 0 0)
 ext:Ext w w'
 le:t≤body.size
theorem NSt.num{w w1 w2:World}{cb rb t t':Nat}{body:ByteArray}{b b':Bool}{v:Int}{e:Ending}(h:NSt w w1 cb rb body t b)(hn:Bc body.data.toList t b=(v,t',b'))(hne:cb≠rb)(hge:w.heap.size≤rb)(hp:Ah rb body t b w1 e w2) :
 e=.returned (.int .i64 v)∧NSt w w2 cb rb body t' b':=by
 unfold Ah at hp;have hle:=Kc (s:=body.data.toList) (t:=t) (b:=b) h.le;rw[hn]at hp hle;obtain⟨h1,h2,h3⟩:=hp;exact⟨h1,h2,h.res.chg h3 hne,h.ext.chg_new h3 (fun i hi=>by subst hi;exact hge),hle.1⟩
theorem NSt.alloc{w w1:World}{cb rb t:Nat}{body:ByteArray}{b:Bool}(h:NSt w w1 cb rb body t b)(o:Obj):NSt w (w1.alloc o) cb rb body t b :=
 ⟨h.rdr.ext ((Yk _).alloc o),h.res.ext ((Yk _).alloc o),h.ext.alloc o,h.le⟩
theorem NSt.text{w w1 w2:World}{cb rb t t':Nat}{body:ByteArray}{b b':Bool}{v:List UInt8}{e:Ending}(h:NSt w w1 cb rb body t b)(hn:Qz body.data.toList t b=(v,t',b'))(hne:cb≠rb)(hge:w.heap.size≤rb)(hp:Li rb body t b w1 e w2) :
 e=.returned (.string (bs v))∧NSt w w2 cb rb body t' b'∧Chg (· = rb) w1 w2:=by
 unfold Li at hp;have hle:=Kg (s:=body.data.toList) (t:=t) (b:=b) h.le;rw[hn]at hp hle;obtain⟨h1,h2,h3⟩:=hp;exact⟨h1,⟨h2,h.res.chg h3 hne,h.ext.chg_new h3 (fun i hi=>by subst hi;exact hge),hle.1⟩,h3⟩
theorem NSt.drew{w w1:World}{cb rb t:Nat}{body:ByteArray}{b:Bool}(h:NSt w w1 cb rb body t b):NSt w w1.drew cb rb body t b:=⟨h.rdr,h.res,h.ext.drew,h.le⟩
theorem Chg.grownBy{rb:Nat}{a b:World}(c:Chg (· = rb) a b):a.grownBy b (some rb) :=
 ⟨c.os,c.tape,c.output,c.size,fun k hk hne=>c.block k hk (fun e=>hne (by rw[e]))⟩
theorem Tu{rb B z n:Nat}{a b:World}{e:TypeId}{v:Value}{xs:List Value}(h:a.ownsRow B e z v n xs)(c:Chg (· = rb) a b)(hb:rb<B):b.ownsRow B e z v n xs :=
 h.kept c.grownBy (by
  cases hv:v.ownBlock with
  | none=>exact .inl rfl
  | some k=>exact .inr (by have:=(h.lt k hv).1;simp;omega))
structure ESt(w w':World)(cb rb eb B:Nat)(body:ByteArray)(e:Ent)(t0:Nat)(b0:Bool)(k:Nat)(v:Value):Prop where
 num:∃ ns t b,Va body.data.toList k t0 b0=(ns,t,b)∧NSt w w' cb rb body t b∧w'.ownsRow B 109 3 v k (Wh ns)
 ent:Pq w' eb e v
 big:B≤w'.heap.size
theorem Zrz(body:ByteArray)(hs:body.size≤140737488355328)(w:World):Calls prog 134 #[.string body] w (Ztd body w):=by
 obtain⟨L,hL⟩:=gnX (body.data.toList);obtain⟨v1,t1,b1,h1⟩:∃ v t b,Bc L 0 false=(v,t,b):=⟨_,_,_,rfl⟩;obtain⟨v2,t2,b2,h2⟩:∃ v t b,Bc L t1 b1=(v,t,b):=⟨_,_,_,rfl⟩;obtain⟨v3,t3,b3,h3⟩:∃ v t b,Bc L t2 b2=(v,t,b):=⟨_,_,_,rfl⟩;obtain⟨v4,t4,b4,h4⟩:∃ v t b,Bc L t3 b3=(v,t,b):=⟨_,_,_,rfl⟩;obtain⟨v5,t5,b5,h5⟩:∃ v t b,Bc L t4 b4=(v,t,b):=⟨_,_,_,rfl⟩;have hhead:Je L=⟨v1,v2,v3,v4,v5,t5,b5⟩:=by unfold Je;simp only[h1,h2,h3,h4,h5]
 rw[← hL]at h1 h2 h3 h4 h5;have H1:=Y8 h1;have H2:=Y8 h2;have H3:=Y8 h3;have H4:=Y8 h4;have H5:=Y8 h5;have Hhead:=Y8 hhead;have HL:=Y8 hL;clear h1 h2 h3 h4 h5 hhead hL;have hst0:NSt w ((w.alloc (.cells #[.int .i64 0,.int .i64 0,.int .i64 0,.int .i64 0,.slice none 0 0] 83)).alloc (.cells #[.string body,.int .i64 0,.bool false] 205)) w.heap.size (w.heap.size+1) body 0 false:=by
  refine⟨⟨by simp,fun i=>by go_simp,by go_simp,by go_simp,by go_simp⟩,⟨by simp;omega,fun i=>by go_simp,by go_simp,by go_simp,by go_simp,by go_simp,by go_simp⟩,((Yk w).alloc _).alloc _,by omega⟩
 have Hs0:=Y8 hst0;clear hst0;obtain⟨cb,hcb⟩:=gnX (w.heap.size);rw[hcb]at Hs0;have hne:cb≠cb+1:=by omega
 have hge:w.heap.size≤cb+1:=by omega
 go_enter func134,ntmps134;go_wp2_with fail;refine(Jn (cb+1) body 0 false (by omega) hs _ Hs0.o.rdr).mono ?_;intro x w1 hp;obtain⟨rfl,hs1⟩:=Hs0.o.num H1.o hne hge hp;have Hs1:=Y8 hs1;clear hp hs1 Hs0;go_wp2_with fail;refine(Jn (cb+1) body t1 b1 Hs1.o.le hs _ Hs1.o.rdr).mono ?_;intro x w2 hp;obtain⟨rfl,hs2⟩:=Hs1.o.num H2.o hne hge hp;have Hs2:=Y8 hs2;clear hp hs2 Hs1;go_wp2_with fail;refine(Jn (cb+1) body t2 b2 Hs2.o.le hs _ Hs2.o.rdr).mono ?_;intro x w3 hp;obtain⟨rfl,hs3⟩:=Hs2.o.num H3.o hne hge hp;have Hs3:=Y8 hs3;clear hp hs3 Hs2;go_wp2_with fail;refine(Jn (cb+1) body t3 b3 Hs3.o.le hs _ Hs3.o.rdr).mono ?_;intro x w4 hp;obtain⟨rfl,hs4⟩:=Hs3.o.num H4.o hne hge hp;have Hs4:=Y8 (hs4.alloc (.cells #[.int .i64 v1,.int .i64 v2,.int .i64 v3,.int .i64 v4,.slice none 0 0] 83));have He4:=Y8 (show Pq (w4.alloc (.cells #[.int .i64 v1,.int .i64 v2,.int .i64 v3,.int .i64 v4,.slice none 0 0] 83)) w4.heap.size ⟨v1,v2,v3,v4,[]⟩ (.slice none 0 0) from⟨by simp,fun i=>by go_simp,by go_simp,by go_simp,by go_simp,by go_simp,by go_simp⟩);have hz4:cb+1<w4.heap.size:=hs4.rdr.1;clear hp hs4 Hs3;go_wp2_with fail;refine(Jn (cb+1) body t4 b4 Hs4.o.le hs _ Hs4.o.rdr).mono ?_;intro x w5 hp;obtain⟨rfl,hs5⟩:=Hs4.o.num H5.o hne hge hp;have Hs5:=Y8 hs5;have He5:=Y8 (He4.o.chg (S:=(· = cb+1)) (by unfold Ah at hp;exact hp.2.2) (by omega));obtain⟨eb,heb⟩:=gnX (w4.heap.size);rw[heb]at He5;clear hp hs5 Hs4 He4;by_cases hn5:1≤v5∧v5≤16
 ·obtain⟨n1,n2⟩:=hn5;obtain⟨n,rfl⟩:∃ n:Nat,v5=(n:Int):=⟨v5.toNat,by omega⟩;have hwf:(decide ((1:Int)≤(n:Int))&&decide ((n:Int)≤16))=true:=by simp;omega
  go_wp2_with (go_at_call 154;refine(Qa _ _ _ _).mono ?_;rintro e' w' ⟨rfl,rfl⟩;rw[hwf]);have hB:eb<w5.heap.size:=He5.o.1;have Hest:=Y8 (show ESt w w5 cb (cb+1) eb w5.heap.size body ⟨v1,v2,v3,v4,[]⟩ t5 b5 0 (.slice none 0 0) from⟨⟨[],t5,b5,rfl,Hs5.o,Zfj _ _ _ _⟩,He5.o,Ym _⟩);obtain⟨B,hBe⟩:=gnX (w5.heap.size);rw[hBe]at Hest hB;have hcB:cb+1<eb:=by omega
  clear Hs5 He5 hBe;go_loopw [26] (fun o wr=>∃ k:Nat,k≤n∧o=.int .i64 (k:Int)∧∃ v,ESt w wr cb (cb+1) eb B body ⟨v1,v2,v3,v4,[]⟩ t5 b5 k v) (fun o _=>n-(intOf o).toNat);case atStart=>exact⟨0,by omega,rfl,_,Hest.o⟩
  clear Hest;obtain⟨k,hk,rfl,v,⟨ns,t,b,hns,hst,hown⟩,hent,hbig⟩:=hrel;obtain⟨a,c,rfl⟩:=Wv hown;have Hns:=Y8 hns;have Hst:=Y8 hst;have Hown:=Y8 hown;have Hent:=Y8 hent;clear hns hst hown;by_cases hlt:k<n
  ·have hd:decide ((k:Int)<(n:Int))=true:=by simpa using hlt
   obtain⟨x1,s1,d1,g1⟩:∃ v t' b',Qz L t b=(v,t',b'):=⟨_,_,_,rfl⟩;obtain⟨x2,s2,d2,g2⟩:∃ v t' b',Qz L s1 d1=(v,t',b'):=⟨_,_,_,rfl⟩;obtain⟨x3,s3,d3,g3⟩:∃ v t' b',Qz L s2 d2=(v,t',b'):=⟨_,_,_,rfl⟩;have Hname:=Y8 (show Jd L t b=(⟨bs x1,bs x2,bs x3⟩,s3,d3) by unfold Jd;simp only[g1,g2,g3]);rw[← HL.o]at g1 g2 g3;have G1:=Y8 g1;have G2:=Y8 g2;have G3:=Y8 g3;clear g1 g2 g3;obtain⟨_,_,_,_,_,_,p4⟩:=hent;go_wp2_with fail;refine Pf (S:=fun w'=>w'.cell? ⟨eb,4,none⟩=some (.slice a k c)) 12 12 (by rfl) (by decide) (by kernel_rfl) (by kernel_rfl) ?_ (fun hHeld=>?_)
   ·go_keep
   refine Zen (i:=0) (oi:=_) (v:=?_) rfl (by kernel_rfl) (by kernel_rfl) (by kernel_rfl) (fun _ _ _ h=>h) (Or.inl ⟨by rfl,?_⟩) (by assumption) ?_;rotate_left;(focus((intro w hSw;(try dsimp only at hSw);go_simp);(first|done|(with_reducible rfl))));(try simp only[Act.put]);(try simp only[Zv]);refine Zen (i:=1) (oi:=_) (v:=?_) rfl (by kernel_rfl) (by kernel_rfl) (by kernel_rfl) (fun _ _ _ h=>h) (Or.inl ⟨by rfl,?_⟩) (by assumption) ?_;rotate_left;(focus((intro w hSw;(try dsimp only at hSw);go_simp);(first|done|(with_reducible rfl))));(try simp only[Act.put]);(try simp only[Zv]);refine Zen (i:=2) (oi:=_) (v:=?_) rfl (by kernel_rfl) (by kernel_rfl) (by kernel_rfl) (fun _ _ _ h=>h) (Or.inl ⟨by rfl,?_⟩) (by assumption) ?_;rotate_left;(focus((intro w hSw;(try dsimp only at hSw);go_simp);(first|done|(with_reducible rfl))));(try simp only[Act.put]);(try simp only[Zv]);refine Zen (i:=4) (oi:=_) (v:=?_) rfl (by kernel_rfl) (by kernel_rfl) (by kernel_rfl) (fun _ _ _ h=>h) (Or.inl ⟨by rfl,?_⟩) (by assumption) ?_;rotate_left;(focus((intro w hSw;(try dsimp only at hSw);go_simp);(first|done|(with_reducible rfl))));(try simp only[Act.put]);(try simp only[Zv]);refine Zen (i:=6) (oi:=_) (v:=?_) rfl (by kernel_rfl) (by kernel_rfl) (by kernel_rfl) (fun _ _ _ h=>h) (Or.inl ⟨by rfl,?_⟩) (by assumption) ?_;rotate_left;(focus((intro w hSw;(try dsimp only at hSw);go_simp);(first|done|(with_reducible rfl))));(try simp only[Act.put]);(try simp only[Zv]);refine rdoX 3 (fun K hK=>?_);go_simp;refine(Ms (cb+1) body t b Hst.o.le hs _ Hst.o.drew.rdr).mono ?_;intro x w6 hp;obtain⟨rfl,hs6,hc6⟩:=Hst.o.drew.text G1.o hne hge hp;have hbig:=Zgo hbig hc6.size;have Hs6:=Y8 hs6;have He6:=Y8 (Hent.o.chg (w:=wr.drew) hc6 (by omega));have Ho6:=Y8 (Tu (a:=wr.drew) Hown.o.drew hc6 (by omega));have p4:=He6.o.2.2.2.2.2.2;clear hp hs6 hc6 Hst Hent Hown;(try go_wp2_with fail);refine hK.out _ _ ?_ (fun hHeld=>?_);(focus((try dsimp only);(first|done|go_keep)));clear hK K;try simp only[Act.put,Zv,Zu,Zt]
   refine rdoX 5 (fun K hK=>?_);go_simp;refine(Ms (cb+1) body s1 d1 Hs6.o.le hs _ Hs6.o.rdr).mono ?_;intro x w7 hp;obtain⟨rfl,hs7,hc7⟩:=Hs6.o.text G2.o hne hge hp;have hbig:=Zgo hbig hc7.size;have Hs7:=Y8 hs7;have He7:=Y8 (He6.o.chg hc7 (by omega));have Ho7:=Y8 (Tu Ho6.o hc7 (by omega));have p4:=He7.o.2.2.2.2.2.2;clear hp hs7 hc7 Hs6 He6 Ho6;(try go_wp2_with fail);refine hK.out _ _ ?_ (fun hHeld=>?_);(focus((try dsimp only);(first|done|go_keep)));clear hK K;try simp only[Act.put,Zv,Zu,Zt]
   refine rdoX 7 (fun K hK=>?_);go_simp;refine(Ms (cb+1) body s2 d2 Hs7.o.le hs _ Hs7.o.rdr).mono ?_;intro x w8 hp;obtain⟨rfl,hs8,hc8⟩:=Hs7.o.text G3.o hne hge hp;have hbig:=Zgo hbig hc8.size;have Hs8:=Y8 hs8;have He8:=Y8 (He7.o.chg hc8 (by omega));have Ho8:=Y8 (Tu Ho7.o hc8 (by omega));have p4:=He8.o.2.2.2.2.2.2;clear hp hs8 hc8 Hs7 He7 Ho7;(try go_wp2_with fail);refine hK.out _ _ ?_ (fun hHeld=>?_);(focus((try dsimp only);(first|done|go_keep)));clear hK K;try simp only[Act.put,Zv,Zu,Zt]
   refine Zen (i:=8) (oi:=_) (v:=?_) rfl (by kernel_rfl) (by kernel_rfl) (by kernel_rfl) (fun _ _ _ h=>h) (Or.inl ⟨by rfl,?_⟩) (by assumption) ?_;rotate_left;(focus((intro w hSw;(try dsimp only at hSw);go_simp);(first|done|(with_reducible rfl))));(try simp only[Act.put]);(try simp only[Zv]);refine rdoX 9 (fun K hK=>?_);go_simp;have hxn:Ext w8 (w8.alloc (.cells #[.string (bs x1),.string (bs x2),.string (bs x3)] 109)):=(Yk w8).alloc _;have Hs9:=Y8 (Hs8.o.alloc (.cells #[.string (bs x1),.string (bs x2),.string (bs x3)] 109));have He9:=Y8 (He8.o.ext hxn);have Ho9:=Y8 (Ho8.o.alloc (.cells #[.string (bs x1),.string (bs x2),.string (bs x3)] 109));have hrl:=Zpl w8 (bs x1) (bs x2) (bs x3);have p4:=He9.o.2.2.2.2.2.2;have hbz:B≤(w8.alloc (.cells #[.string (bs x1),.string (bs x2),.string (bs x3)] 109)).heap.size:=by simp;omega
   clear Hs8 He8 Ho8;(try go_wp2_with fail);refine hK.out _ _ ?_ (fun hHeld=>?_);(focus((try dsimp only);(first|done|go_keep)));clear hK K;try simp only[Act.put,Zv,Zu,Zt]
   refine rdoX 10 (fun K hK=>?_);obtain⟨i0,hi,hz0,hz1,hz2⟩:=Zgl Zr3;refine Ex _ (by rfl) (.tmp 29) (.tmp 37) 49 (by rfl) B 109 i0 _ 3 48 Zom hi hz0 hz1 hz2 (by rfl) (by decide) (.slice a k c) k (Wh ns) (by rfl) Ho9.o (fun _=>True) (.slice (some ⟨w8.heap.size,0,none⟩) 1 1) 1 [.string (bs x1),.string (bs x2),.string (bs x3)] (by rfl) hrl (by simp[Value.oneCell']) (by unfold maxLen;omega) (by omega) hbz ?_;intro v' w10 ha;have hcg:Chg (fun i=>B≤i) (w8.alloc (.cells #[.string (bs x1),.string (bs x2),.string (bs x3)] 109)) w10:=(Chg.refl _ _).grown ha.grown (fun k hk=>.inl (Ho9.o.lt k hk).1);have hs10:NSt w w10 cb (cb+1) body s3 d3:=⟨Hs9.o.rdr.chg hcg (by omega),Hs9.o.res.chg hcg (by omega),Hs9.o.ext.chg_new hcg (fun i hi=>by omega),Hs9.o.le⟩;have He10:=Y8 (He9.o.chg hcg (by omega));have Hs10:=Y8 hs10;have Ho10:=Y8 ha.own;have hbig:=Zgo hbz hcg.size;have p4:=He10.o.2.2.2.2.2.2;clear ha hcg hs10 Hs9 He9 Ho9 hrl hbz;(try go_wp2_with fail);refine hK.out _ _ ?_ (fun hHeld=>?_);(focus((try dsimp only);(first|done|go_keep)));clear hK K;(try simp only[Act.put]);(try simp only[Zv])
   refine Zen (i:=11) (oi:=_) (v:=?_) rfl (by kernel_rfl) (by kernel_rfl) (by kernel_rfl) (fun _ _ _ h=>h) (Or.inl ⟨by rfl,?_⟩) (by assumption) ?_;rotate_left;(focus((intro w hSw;(try dsimp only at hSw);go_simp);(first|done|(with_reducible rfl))));(try simp only[Act.put]);(try simp only[Zv]);refine dneX ?_;obtain⟨a2,c2,hv2⟩:=Wv Ho10.o;subst hv2;obtain⟨e1,e2,e3,e4,e5,e6,e7⟩:=He10.o;refine Zsq (o:=_) rfl (by rfl) ?_;go_simp;have hcf:Chg (· = eb) w10 (w10.setCell ⟨eb,4,none⟩ (.slice a2 (k+1) c2)):=(Chg.refl (· = eb) w10).setCell (p:=⟨eb,4,none⟩) (.inl rfl) _;have Hend:=Y8 (show ESt w (w10.setCell ⟨eb,4,none⟩ (.slice a2 (k+1) c2)) cb (cb+1) eb B body ⟨v1,v2,v3,v4,[]⟩ t5 b5 (k+1) (.slice a2 (k+1) c2) from
    ⟨⟨ns++[⟨bs x1,bs x2,bs x3⟩],s3,d3,by rw[Oz,Hns.o,HL.o];simp only;rw[Hname.o],⟨Hs10.o.rdr.chg hcf (by omega),Hs10.o.res.chg hcf (by omega),Hs10.o.ext.chg_new hcf (fun i hi=>by subst hi;omega),Hs10.o.le⟩,by rw[Ks];exact Tu Ho10.o hcf (by omega)⟩,⟨by simpa[World.setCell]using e1,fun i=>by go_simp,by go_simp,by go_simp,by go_simp,by go_simp,by go_simp⟩,by simpa[World.setCell]using hbig⟩)
   clear hcf e1 e2 e3 e4 e5 e6 e7 Hs10 He10 Ho10;go_wp2_with fail;go_roundw;case rel=>exact⟨k+1,by omega,by go_num,_,Hend.o⟩
   simp[intOf];omega
  have hd:decide ((k:Int)<(n:Int))=false:=by simp;omega
  have hkn:k=n:=by omega
  subst hkn;obtain⟨e1,e2,e3,e4,e5,e6,e7⟩:=hent;obtain⟨r1,r2,r3,r4,r5⟩:=Hst.o.rdr;obtain⟨z1,z2,z3,z4,z5,z6,z7⟩:=Hst.o.res;have hcw:w.heap.size≤cb:=by omega
  have hne2:¬ cb=eb:=by omega
  have hne3:¬ cb=cb+1:=by omega
  have Hnm:=Y8 (show Wo wr (fun i=>B≤i) (.slice a k c) ns from by
   have hl:ns.length=k:=by have:=Fn body.data.toList k t5 b5;rw[Hns.o]at this;exact this
   unfold Wo;rw[hl];exact Rd.of_own Hown.o fun q hq=>(Hown.o.lt q hq).1)
  cases b with
  | true =>
   have Hres:=Y8 (show Zwv body.data.toList=none by rw[HL.o];unfold Zwv;rw[Hhead.o];simp only;rw[Zgn ⟨n1,n2⟩,Zej];rw[← HL.o,Hns.o];rfl);go_wp2_with fail;go_region;go_wp2_with fail;exact Ys (v:=.tuple #[Gn ⟨v1,v2,v3,v4,ns⟩ (.slice a k c),.bool false]) (by simp[results,results134,go_sem,Gn, *]) rfl ⟨by repeat(first|exact Hst.o.ext|apply Yh|(refine Y0 ?_ hcw _)),.inr ⟨Hres.o,_,_,_,_,rfl⟩⟩
  | false =>
   have Hres:=Y8 (show Zwv body.data.toList=some ⟨v1,v2,v3,v4,ns⟩ by rw[HL.o];unfold Zwv;rw[Hhead.o];simp only;rw[Zgn ⟨n1,n2⟩,Zej];rw[← HL.o,Hns.o];rfl);go_wp2_with fail;go_region;go_wp2_with fail;exact Ys (v:=.tuple #[Gn ⟨v1,v2,v3,v4,ns⟩ (.slice a k c),.bool true]) (by simp[results,results134,go_sem,Gn, *]) rfl ⟨by repeat(first|exact Hst.o.ext|apply Yh|(refine Y0 ?_ hcw _)),.inl ⟨_,_,Hres.o,rfl,(Rd.chg Hnm.o (T:=(· = cb)) (by repeat(first|exact Chg.refl _ _|apply Chg.drew|(refine Chg.setCell ?_ (.inl (by simp)) _))) (fun q hq e=>by omega)).mono (fun q hq _=>by omega)⟩⟩
 have hwf:(decide ((1:Int)≤v5)&&decide (v5≤16))=false:=by simp;omega
 have Hnone:=Y8 (show Zwv body.data.toList=none by rw[HL.o];unfold Zwv;rw[Hhead.o];simp only;rw[Zgq hn5]);obtain⟨g1,g2,c0,c1,c2,c3,c4⟩:=Hs5.o.res;have hcw:w.heap.size≤cb:=by omega
 clear hn5;go_wp2_with (go_at_call 154;refine(Qa _ _ _ _).mono ?_;rintro e' w' ⟨rfl,rfl⟩;rw[hwf]);exact Ys (v:=.tuple #[Gn ⟨0,0,0,0,[]⟩ (.slice none 0 0),.bool false]) (by simp[results,results134,go_sem,Gn, *]) rfl ⟨by repeat(first|exact Hs5.o.ext|(refine Y0 ?_ (by simp;omega) _)),.inr ⟨Hnone.o,_,_,_,_,rfl⟩⟩
theorem Bh{s:List UInt8}{t:Nat}{b:Bool}(h:t≤s.length):(Qz s t b).1.length+t≤(Qz s t b).2.1:=by
 have h1:=Kc (b:=b) h;unfold Qz;simp only;split
 ·simpa using h1.2
 rename_i hn;simp only[Zby]at hn;simp only[Zp,Yz];omega
def Cv(n:Nm):Nat:=n.a.size+n.u.size+n.k.size
def Kr:List Nm→Nat
 | []=>0
 | n::r=>Cv n+Kr r
theorem Zul{s:List UInt8}{t:Nat}{b:Bool}(h:t≤s.length):Cv (Jd s t b).1+t≤(Jd s t b).2.1:=by
 unfold Jd Cv;simp only[Js];have h1:=Kg (b:=b) h;have h2:=Kg (s:=s) (b:=(Qz s t b).2.2) h1.1;have k1:=Bh (b:=b) h;have k2:=Bh (s:=s) (b:=(Qz s t b).2.2) h1.1;have k3:=Bh (s:=s) (b:=(Qz s (Qz s t b).2.1 (Qz s t b).2.2).2.2) h2.1;omega
theorem N9(s:List UInt8):∀ (n t:Nat) (b:Bool),t≤s.length→Kr (Va s n t b).1+t≤(Va s n t b).2.1∧(Va s n t b).2.1≤s.length
 | 0,t,b,h=>by simp[Va,Kr,h]
 | n+1,t,b,h=>by
  have h1:=Zmb (b:=b) h;have h2:=Zul (b:=b) h;have h3:=N9 s n (Jd s t b).2.1 (Jd s t b).2.2 h1.1;rw[Va];simp only[Kr];omega
theorem Zyh(s:ByteArray)(hs:s.size≤9223372036854775807):(item s.data.toList).length≤s.size+10:=by
 have hl:s.data.toList.length=s.size:=rfl;have:=Vj (v:=((s.data.toList.length:Nat):Int)) (by omega) (by omega);rw[item,Zs];omega
theorem Dl:∀ l:List Nm,Kr l≤9223372036854775807→(Xo l).length≤Kr l+30*l.length
 | [],_=>by simp[Xo,Kr]
 | n::r,h=>by
  simp only[Kr,Cv]at h;have h1:=Dl r (by omega);have a:=Zyh n.a (by omega);have u:=Zyh n.u (by omega);have k:=Zyh n.k (by omega);simp only[Xo,Vs,Kr,Cv,Zs,Zl];omega
theorem Zjn{e:Ent}(h1:I64 e.cl)(h2:I64 e.op)(h3:I64 e.ttl)(h4:I64 e.tick)(hl:e.names.length≤17)(hs:Kr e.names≤9223372036854775807):(Vx e).length≤Kr e.names+560:=by
 have c1:=Vj h1.1 h1.2;have c2:=Vj h2.1 h2.2;have c3:=Vj h3.1 h3.2;have c4:=Vj h4.1 h4.2;have c5:=Vj (v:=(e.names.length:Nat)) (by omega) (by omega);have c6:=Dl e.names hs;unfold Vx Wf;simp only[Zs];omega
theorem Zs9{s:List UInt8}{e:Ent}(hs:s.length≤140737488351232)(h:Zwv s=some e):(Vx e).length+100≤140737488355328:=by
 unfold Zwv at h;simp only at h;split at h
 ·rename_i hn;split at h
  ·simp at h
  simp only[Yc]at h;have hb:=Zmx s;obtain⟨k1,k2⟩:=N9 s (Je s).n.toNat (Je s).at_ (Je s).bad hb;have hl:=Fn s (Je s).n.toNat (Je s).at_ (Je s).bad;have hI:I64 (Je s).cl∧I64 (Je s).op∧I64 (Je s).ttl∧I64 (Je s).tick:=by
   unfold Je;exact⟨Ow _ _ _,Ow _ _ _,Ow _ _ _,Ow _ _ _⟩
  subst h;have:=Zjn (e:=⟨(Je s).cl,(Je s).op,(Je s).ttl,(Je s).tick,(Va s (Je s).n.toNat (Je s).at_ (Je s).bad).1⟩) hI.1 hI.2.1 hI.2.2.1 hI.2.2.2 (by simp only;omega) (by simp only;omega);simp only at this;omega
 simp at h
def Ztc(s:ByteArray)(w:World)(x:Ending)(w':World):Prop :=
 Ext w w'∧((∃ e n v,Q9 s.data.toList=some (e,n)∧x=.returned (.tuple #[Gn e v,.int .i64 (n:Int),.bool true])∧Wo w' (fun k=>w.heap.size≤k) v e.names)∨(Q9 s.data.toList=none∧∃ e A k c n,x=.returned (.tuple #[Gn e (.slice A k c),.int .i64 n,.bool false])))
theorem Zv2(s:ByteArray)(hs:s.size≤140737488351232)(w:World):Calls prog 90 #[.string s] w (Ztc s w):=by
 obtain⟨L,hL⟩:=gnX (s.data.toList);obtain⟨x1,t1,b1,h1⟩:∃ v t b,Qz L 0 false=(v,t,b):=⟨_,_,_,rfl⟩;obtain⟨v2,t2,b2,h2⟩:∃ v t b,Bc L t1 b1=(v,t,b):=⟨_,_,_,rfl⟩;have hfp:Q9 L=if b2 then none else match Zwv x1 with|none=>none|some e=>if Kv e=(0,L.take t2)then some (e,t2)else none:=by
  unfold Q9;simp only[h1,h2];rfl
 have hxl:x1.length≤s.size:=by
  have a:=Bh (s:=L) (t:=0) (b:=false) (Zgf _);have b:=Kg (s:=L) (t:=0) (b:=false) (Zgf _);rw[h1]at a b;have:L.length=s.size:=by rw[← hL];rfl
  simp only at a b;omega
 rw[← hL]at h1 h2;have H1:=Y8 h1;have H2:=Y8 h2;have Hfp:=Y8 hfp;have HL:=Y8 hL;clear h1 h2 hfp hL;have hst0:NSt w ((w.alloc (.cells #[.int .i64 0,.int .i64 0,.int .i64 0,.int .i64 0,.slice none 0 0] 83)).alloc (.cells #[.string s,.int .i64 0,.bool false] 205)) w.heap.size (w.heap.size+1) s 0 false:=by
  refine⟨⟨by simp,fun i=>by go_simp,by go_simp,by go_simp,by go_simp⟩,⟨by simp;omega,fun i=>by go_simp,by go_simp,by go_simp,by go_simp,by go_simp,by go_simp⟩,((Yk w).alloc _).alloc _,by omega⟩
 have Hs0:=Y8 hst0;clear hst0;obtain⟨cb,hcb⟩:=gnX (w.heap.size);rw[hcb]at Hs0;have hne:cb≠cb+1:=by omega
 have hge:w.heap.size≤cb+1:=by omega
 have hcw:w.heap.size≤cb:=by omega
 go_enter func90,ntmps90;go_wp2_with fail;refine(Ms (cb+1) s 0 false (by omega) (by omega) _ Hs0.o.rdr).mono ?_;intro x w1 hp;obtain⟨rfl,hs1,_⟩:=Hs0.o.text H1.o hne hge hp;have Hs1:=Y8 hs1;clear hp hs1 Hs0;go_wp2_with fail;refine(Jn (cb+1) s t1 b1 Hs1.o.le (by omega) _ Hs1.o.rdr).mono ?_;intro x w2 hp;obtain⟨rfl,hs2⟩:=Hs1.o.num H2.o hne hge hp;have Hs2:=Y8 hs2;clear hp hs2 Hs1;cases b2 with
 | true =>
  have Hno:=Y8 (show Q9 s.data.toList=none by rw[HL.o,Hfp.o];rfl);obtain⟨g1,g2,c0,c1,c2,c3,c4⟩:=Hs2.o.res;obtain⟨r1,r2,r3,r4,r5⟩:=Hs2.o.rdr;go_wp2_with fail;exact Ys (v:=.tuple #[Gn ⟨0,0,0,0,[]⟩ (.slice none 0 0),.int .i64 0,.bool false]) (by simp[results,results90,go_sem,Gn, *]) rfl ⟨by repeat(first|exact Hs2.o.ext|apply Yh|(refine Y0 ?_ hcw _)),.inr ⟨Hno.o,_,_,_,_,_,rfl⟩⟩
 | false =>
  obtain⟨r1,r2,r3,r4,r5⟩:=Hs2.o.rdr;have hz2:cb+1<w2.heap.size:=r1;go_wp2_with fail;refine(Zrz (bs x1) (by rw[Js];omega) _).mono ?_;rintro x w3 ⟨hx3,⟨e,v,hent,rfl,hnm⟩ | ⟨hent,e,A,k,c,rfl⟩⟩
  ·have Hent:=Y8 hent;have Hs3:=Y8 (show NSt w w3 cb (cb+1) s t2 false from⟨Hs2.o.rdr.ext hx3,Hs2.o.res.ext hx3,Hs2.o.ext.trans hx3,Hs2.o.le⟩);have Hnm:=Y8 hnm;have hbd:=Zs9 (by rw[Mi];omega) hent;clear hx3 hent hnm Hs2 r1 r2 r3 r4 r5;obtain⟨A,c,rfl⟩:=Hnm.o.shape;have hxa:Ext w3 (w3.alloc (.cells #[.int .i64 e.cl,.int .i64 e.op,.int .i64 e.ttl,.int .i64 e.tick,.slice A e.names.length c] 83)):=(Yk w3).alloc _;have he4:Pq (w3.alloc (.cells #[.int .i64 e.cl,.int .i64 e.op,.int .i64 e.ttl,.int .i64 e.tick,.slice A e.names.length c] 83)) w3.heap.size e (.slice A e.names.length c):=⟨by simp,fun i=>by go_simp,by go_simp,by go_simp,by go_simp,by go_simp,by go_simp⟩;have Hs4:=Y8 (Hs3.o.alloc (.cells #[.int .i64 e.cl,.int .i64 e.op,.int .i64 e.ttl,.int .i64 e.tick,.slice A e.names.length c] 83));have Hnm4:=Y8 (Hnm.o.ext hxa);have hz3:cb+1<w3.heap.size:=Hs3.o.rdr.1;obtain⟨eb,heb⟩:=gnX (w3.heap.size);obtain⟨w4,hw4⟩:=gnX (w3.alloc (.cells #[.int .i64 e.cl,.int .i64 e.op,.int .i64 e.ttl,.int .i64 e.tick,.slice A e.names.length c] 83));rw[heb]at he4;rw[hw4]at he4 Hs4 Hnm4;have He4:=Y8 he4;obtain⟨e1,e2,e3,e4,e5,e6,e7⟩:=he4;have hne2:¬ cb=eb:=by omega
   have hne3:¬ cb=cb+1:=by omega
   clear hxa Hs3 Hnm;unfold Gn;go_wp2_with fail;refine(M9 e (.slice A e.names.length c) _ Hnm4.o hbd).mono ?_;rintro x w5 ⟨rfl,hx5⟩;obtain⟨code,ys,hcy⟩:∃ code ys,Kv e=(code,ys):=⟨_,_,rfl⟩;rw[hcy];have Hcy:=Y8 hcy;have hex:s.extract 0 t2=bs (L.take t2):=by
    apply Zd2;rw[Zea];apply Zc9;rw[Ze9,HL.o];show List.extract L 0 t2=L.take t2;rw[Zeo];simp
   have Hex:=Y8 hex;have Hs5:=Y8 (show NSt w w5 cb (cb+1) s t2 false from⟨Hs4.o.rdr.ext hx5,Hs4.o.res.ext hx5,Hs4.o.ext.trans hx5,Hs4.o.le⟩);have Hnm5:=Y8 (Hnm4.o.ext hx5);obtain⟨f1,f2,f3,f4,f5,f6,f7⟩:=He4.o.ext hx5;obtain⟨r1,r2,r3,r4,r5⟩:=Hs5.o.rdr;obtain⟨z1,z2,z3,z4,z5,z6,z7⟩:=Hs5.o.res;have hle:=Hs5.o.le;have q0:(0:Int)≤(t2:Int):=by omega
   have q1:(t2:Int)≤(s.size:Int):=by omega
   clear hcy hex hx5 e1 e2 e3 e4 e5 e6 e7 Hs4 Hnm4 He4 hw4 heb;simp only;by_cases hc0:code=0
   ·subst hc0;by_cases hys:ys=L.take t2
    ·have Hyes:=Y8 (show Q9 s.data.toList=some (e,t2) by rw[HL.o,Hfp.o];simp only[Ze0,Zc2];rw[← Mi x1,Hent.o];simp only;rw[Zgn (by rw[Hcy.o,hys])]);have heq:((bs ys).toList==(s.extract 0 t2).toList)=true:=by rw[Hex.o,hys];exact beq_self_eq_true _
     clear hys;go_wp2_with fail;go_region;go_wp2_with fail;exact Ys (v:=.tuple #[Gn e (.slice A e.names.length c),.int .i64 (t2:Int),.bool true]) (by simp[results,results90,go_sem,Gn, *]) rfl ⟨by repeat(first|exact Hs5.o.ext|apply Yh|(refine Y0 ?_ hcw _)),.inl ⟨e,t2,_,Hyes.o,rfl,(Rd.chg Hnm5.o (T:=(· = cb)) (by repeat(first|exact Chg.refl _ _|apply Chg.drew|(refine Chg.setCell ?_ (.inl (by simp)) _))) (fun q hq e=>by omega)).mono (fun q hq _=>by omega)⟩⟩
    have Hno:=Y8 (show Q9 s.data.toList=none by rw[HL.o,Hfp.o];simp only[Ze0,Zc2];rw[← Mi x1,Hent.o];simp only;rw[Zgq (by rw[Hcy.o];simp[hys])]);have heq:((bs ys).toList==(s.extract 0 t2).toList)=false:=by
     rw[Hex.o,Zd5,Zg2,Zg2];exact hys
    clear hys;go_wp2_with fail;go_region;go_wp2_with fail;exact Ys (v:=.tuple #[Gn e (.slice A e.names.length c),.int .i64 (t2:Int),.bool false]) (by simp[results,results90,go_sem,Gn, *]) rfl ⟨by repeat(first|exact Hs5.o.ext|apply Yh|(refine Y0 ?_ hcw _)),.inr ⟨Hno.o,e,_,_,_,_,rfl⟩⟩
   have Hno:=Y8 (show Q9 s.data.toList=none by rw[HL.o,Hfp.o];simp only[Ze0,Zc2];rw[← Mi x1,Hent.o];simp only;rw[Zgq (by rw[Hcy.o];simp[hc0])]);have hcd:(code==0)=false:=by simpa using hc0
   go_wp2_with fail;go_region;go_wp2_with fail;exact Ys (v:=.tuple #[Gn e (.slice A e.names.length c),.int .i64 (t2:Int),.bool false]) (by simp[results,results90,go_sem,Gn, *]) rfl ⟨by repeat(first|exact Hs5.o.ext|apply Yh|(refine Y0 ?_ hcw _)),.inr ⟨Hno.o,e,_,_,_,_,rfl⟩⟩
  have Hno:=Y8 (show Q9 s.data.toList=none by rw[HL.o,Hfp.o,← Mi x1,hent];rfl);obtain⟨g1,g2,c0,c1,c2,c3,c4⟩:=Hs2.o.res.ext hx3;have Hx3:=Y8 (Hs2.o.ext.trans hx3);clear hx3 hent Hs2 r1 r2 r3 r4 r5;unfold Gn;go_wp2_with fail;exact Ys (v:=.tuple #[Gn ⟨0,0,0,0,[]⟩ (.slice none 0 0),.int .i64 0,.bool false]) (by simp[results,results90,go_sem,Gn, *]) rfl ⟨by repeat(first|exact Hx3.o|apply Yh|apply Yj|(refine Y0 ?_ hcw _)),.inr ⟨Hno.o,_,_,_,_,_,rfl⟩⟩
def V8(p:Ent×Value):List Value:=[.int .i64 p.1.cl,.int .i64 p.1.op,.int .i64 p.1.ttl,.int .i64 p.1.tick,p.2]
def Wg:List (Ent×Value)→List Value
 | []=>[]
 | p::r=>V8 p++Wg r
theorem Jf:∀ a b:List (Ent×Value),Wg (a++b)=Wg a++Wg b
 | [],_=>rfl
 | p::r,b=>by simp[Wg,Jf r b]
theorem Dx:∀ l:List (Ent×Value),(Wg l).length=l.length*5
 | []=>rfl
 | p::r=>by rw[Wg,Zs,Dx r];simp[V8];omega
theorem Qe:∀ {l:List (Ent×Value)} {j:Nat} {p:Ent×Value},l[j]?=some p→∀ k,k<5→(Wg l)[j*5+k]?=(V8 p)[k]?
 | q::r,0,p,h,k,hk=>by
  simp only[Zx,Yc]at h;subst h;rw[Wg,Ze (by simp[V8];omega)];congr 1;omega
 | q::r,j+1,p,h,k,hk=>by
  have:=Qe (l:=r) (j:=j) (p:=p) (by simpa using h) k hk;rw[Wg,Zd (by simp[V8];omega),← this];congr 1;simp[V8];omega
def Qr(w:World)(S:Nat→Prop)(v:Value)(ps:List (Ent×Value)):Prop :=
 Rd w S 5 v ps.length (Wg ps)∧∀ p∈ps,Wo w S p.2 p.1.names
theorem Qr.ext{w w':World}{S:Nat→Prop}{v:Value}{ps:List (Ent×Value)}(h:Qr w S v ps)(x:Ext w w'):Qr w' S v ps:=⟨Rd.ext h.1 x,fun p hp=>(h.2 p hp).ext x⟩
theorem Qr.mono{w:World}{S T:Nat→Prop}{v:Value}{ps:List (Ent×Value)}(h:Qr w S v ps)(hst:∀ k,S k→T k):Qr w T v ps:=⟨Rd.mono h.1 fun k hk _=>hst k hk,fun p hp=>Rd.mono (h.2 p hp) fun k hk _=>hst k hk⟩
theorem Zvz:prog.underlying 43=some (.slice 83):=by kernel_rfl
theorem Bo:(prog.info? 83).map (fun i=>(i.zero,i.size,i.bytes))=some (some (.agg #[.int .i64 0,.int .i64 0,.int .i64 0,.int .i64 0,.slice none 0 0]),5,56):=by kernel_rfl
theorem Zpn(w:World)(a b c d:Int)(v:Value):Rd (w.alloc (.cells #[.int .i64 a,.int .i64 b,.int .i64 c,.int .i64 d,v] 83)) (fun _=>True) 5 (.slice (some ⟨w.heap.size,0,none⟩) 1 1) 1 [.int .i64 a,.int .i64 b,.int .i64 c,.int .i64 d,v]:=by
 have h1:(w.alloc (.cells #[.int .i64 a,.int .i64 b,.int .i64 c,.int .i64 d,v] 83)).heap[w.heap.size]?=some (.cells #[.int .i64 a,.int .i64 b,.int .i64 c,.int .i64 d,v] 83):=Zg3 w _;refine⟨by simp,_,_,rfl,Ym _,by unfold maxLen;omega,fun _=>⟨_,_,rfl,trivial,(Zgk.1 h1).1,fun j u hu=>?_⟩⟩;simp only[World.cell?,h1];rw[Zg7,← hu];simp
structure Zl7(w w':World)(L:List UInt8)(v:Value)(t:Nat)(ps:List (Ent×Value)):Prop where
 own:w'.ownsRow w.heap.size 83 5 v ps.length (Wg ps)
 nms:∀ p∈ps,Wo w' (fun b=>w.heap.size≤b∧v.ownBlock≠some b) p.2 p.1.names
 ext:Ext w w'
 le:t≤L.length
 len:ps.length≤4096
 val:Kl 4096 L=(ps.map Prod.fst++(Kl (4096-ps.length) (L.drop t)).1,t+(Kl (4096-ps.length) (L.drop t)).2)
def Ti(s:ByteArray)(w:World)(x:Ending)(w':World):Prop :=
 Ext w w'∧∃ v ps,x=.returned (.tuple #[v,.int .i64 ((Jv s.data.toList).2:Nat)])∧ps.map Prod.fst=(Jv s.data.toList).1∧Qr w' (fun k=>w.heap.size≤k) v ps
theorem Zl7.fin{s:ByteArray}{w w':World}{v:Value}{t:Nat}{ps:List (Ent×Value)}(h:Zl7 w w' s.data.toList v t ps)(he:Kl (4096-ps.length) (s.data.toList.drop t)=([],0)):Ti s w (.returned (.tuple #[v,.int .i64 (t:Int)])) w':=by
 have hv:=h.val;rw[he]at hv;simp only[Zf4,Zfu]at hv;refine⟨h.ext,v,ps,by unfold Jv;rw[hv],by unfold Jv;rw[hv],Rd.of_own h.own fun k hk=>(h.own.lt k hk).1,fun p hp=>Rd.mono (h.nms p hp) fun k hk _=>hk.1⟩
theorem Zl7.more{w w1 w2 w3:World}{L:List UInt8}{v v':Value}{t n:Nat}{ps:List (Ent×Value)}{e:Ent}{u:Value}(h:Zl7 w w1 L v t ps)(hx:Ext w1 w2)(hf:Q9 (L.drop t)=some (e,n))(hu:Wo w2 (fun k=>w1.heap.size≤k) u e.names)(hlt:ps.length<4096)
 (ha:Bu w2 w.heap.size 83 5 v (ps.length+1) (Wg ps++V8 (e,u)) v' w3):Zl7 w w3 L v' (t+n) (ps++[(e,u)]):=by
 have hz:=hx.size;have hz1:=h.ext.size;have hcg:Chg (fun b=>v.ownBlock=some b) w2 w3:=(Chg.refl _ _).grown ha.grown (fun k hk=>.inl hk);have hown1:∀ k,v.ownBlock=some k→w.heap.size≤k∧k<w1.heap.size:=h.own.lt;have hkeep:∀ {S:Nat→Prop} {x:Value} {l:List Nm},Wo w2 S x l→(∀ b,S b→b<w2.heap.size→w.heap.size≤b∧v.ownBlock≠some b)→Wo w3 (fun b=>w.heap.size≤b∧v'.ownBlock≠some b) x l:=fun {S x l} hn hS=>by
  have h1:Wo w2 (fun b=>(w.heap.size≤b∧v.ownBlock≠some b)∧b<w2.heap.size) x l:=Rd.mono hn fun k hk hkl=>⟨hS k hk hkl,hkl⟩
  refine Rd.mono (Rd.chg h1 hcg fun k hk e=>hk.1.2 e) fun k hk _=>⟨hk.1.1,fun e=>?_⟩
  rcases ha.at_ with h2|h2
  ·rw[h2]at e;exact hk.1.2 e
  rw[h2]at e;simp only[Yc]at e;omega
 obtain⟨hp1,hp2⟩:=first_pos (Uv hf);rw[Yz]at hp2;refine⟨?_,fun p hp=>?_,(h.ext.trans hx).chg_new hcg (fun i hi=>(hown1 i hi).1),by omega,by simp;omega,?_⟩
 ·have:=ha.own;rw[Jf];simpa[Wg]using this
 ·rcases Zj.1 hp with hp|hp
  ·exact hkeep ((h.nms p hp).ext hx) fun b hb _=>hb
  simp only[Zi]at hp;subst hp;exact hkeep hu fun b hb _=>⟨by omega,fun e=>by have:=(hown1 b e).2;omega⟩
 have hv:=h.val;obtain⟨m,hm⟩:∃ m,4096-ps.length=m+1:=⟨4095-ps.length,by omega⟩;rw[hm,Rl (Uv hf),Zcr]at hv;have hm2:4096-(ps++[(e,u)]).length=m:=by simp;omega
 rw[hm2,hv];simp[Zfh]
theorem Tq(s:ByteArray)(hs:s.size≤140737488351232)(w:World):Calls prog 52 #[.string s] w (Ti s w):=by
 have hst:Zl7 w w s.data.toList (.slice none 0 0) 0 []:=⟨Zfj _ _ _ _,by simp,Yk _,Zgf _,by simp,by simp⟩;have Hst:=Y8 hst;clear hst;go_enter func52,ntmps52;go_wp2_with fail;go_step3;go_wp2_with fail;go_step3;go_wp2_with fail;go_loopw [4,5] (fun v o wr=>∃ t ps,o=.int .i64 (t:Nat)∧Zl7 w wr s.data.toList v t ps) (fun v _ _=>4096-(match v with | .slice _ n _=>n|_=>0));case atStart=>exact⟨0,[],rfl,Hst.o⟩
 clear Hst;obtain⟨t,ps,rfl,hst⟩:=hrel;obtain⟨a,c,rfl⟩:=Wv hst.own;have hle:=hst.le;have hlen:=hst.len;have hLl:s.data.toList.length=s.size:=rfl;have Hst:=Y8 hst;clear hst;by_cases hlt:ps.length<4096
 ·have hd:decide ((ps.length:Int)<4096)=true:=by simp;omega
  have hd':(ps.length:Int)<4096:=by omega
  have q0:(0:Int)≤(t:Int):=by omega
  have q1:(t:Int)≤(s.size:Int):=by omega
  obtain⟨sub,hsub⟩:=gnX (s.extract t s.size);have hsl:sub.data.toList=s.data.toList.drop t:=by
   rw[← hsub,Zea,Ze9];show List.extract s.data.toList t s.size=_;rw[Zeo,Zm (by rw[Yz];omega)]
  have hss:sub.size≤140737488351232:=by
   have:sub.data.toList.length=sub.size:=rfl;rw[hsl,Yz]at this;omega
  have Hsl:=Y8 hsl;clear hsl;go_wp2_with fail;refine(Zv2 sub hss _).mono ?_;rintro x w1 ⟨hx,⟨e,n,u,hf,rfl,hnm⟩ | ⟨hf,e,A,k,c2,n,rfl⟩⟩
  ·obtain⟨A,c2,rfl⟩:=hnm.shape;have hf':Q9 (s.data.toList.drop t)=some (e,n):=by rw[← Hsl.o];exact hf
   have hpos:=first_pos (Uv hf');rw[Yz]at hpos;obtain⟨hpos,hnl⟩:=hpos;have hw3:wrap64 ((t:Int)+(n:Int))=((t+n:Nat):Int):=by unfold wrap64;omega
   have Hf:=Y8 hf';have hxa:Ext w1 ((w1.alloc (.cells #[.int .i64 e.cl,.int .i64 e.op,.int .i64 e.ttl,.int .i64 e.tick,.slice A e.names.length c2] 83)).alloc (.cells #[.int .i64 e.cl,.int .i64 e.op,.int .i64 e.ttl,.int .i64 e.tick,.slice A e.names.length c2] 83)):=((Yk _).alloc _).alloc _;have Hx:=Y8 (hx.trans hxa);have Hnm:=Y8 (hnm.ext hxa);have Hown:=Y8 (((Rd.of_own (S:=fun _=>True) Hst.o.own (fun _ _=>trivial)).ext (hx.trans hxa)));have hown2:=Y8 (Hst.o.own.kept (hx.trans hxa).grownN (by cases hb:(Value.slice a ps.length c).ownBlock with|none=>exact .inl rfl|some k=>exact .inr (by simp)));have hrl:=Zpn (w1.alloc (.cells #[.int .i64 e.cl,.int .i64 e.op,.int .i64 e.ttl,.int .i64 e.tick,.slice A e.names.length c2] 83)) e.cl e.op e.ttl e.tick (.slice A e.names.length c2);rw[show(w1.alloc (.cells #[.int .i64 e.cl,.int .i64 e.op,.int .i64 e.ttl,.int .i64 e.tick,.slice A e.names.length c2] 83)).heap.size=w1.heap.size+1 by simp]at hrl;have hbz:w.heap.size≤((w1.alloc (.cells #[.int .i64 e.cl,.int .i64 e.op,.int .i64 e.ttl,.int .i64 e.tick,.slice A e.names.length c2] 83)).alloc (.cells #[.int .i64 e.cl,.int .i64 e.op,.int .i64 e.ttl,.int .i64 e.tick,.slice A e.names.length c2] 83)).heap.size:=by have:=Hst.o.ext.size;have:=hx.size;simp;omega
   obtain⟨i0,hi,hz0,hz1,hz2⟩:=Zgl Bo;clear hxa hx hnm hf hf' Hown;unfold Gn;skip;go_wp2_with (at_builtin;refine Vu _ rfl _ _ 43 rfl w.heap.size 83 i0 _ 5 56 Zvz hi hz0 hz1 hz2 rfl (by decide) _ ps.length _ rfl hown2.o (fun _=>True) _ 1 _ rfl hrl (by simp[Value.oneCell']) (by unfold maxLen;omega) (by omega) hbz ?_;intro v' w3 ha;obtain⟨a3,c3,hv3⟩:=Wv ha.own;subst hv3);have Hend:=Y8 (Hst.o.more Hx.o Hf.o Hnm.o hlt ha);clear ha hrl hown2 hbz;go_roundw;case rel=>exact⟨t+n,_,by first|rfl|(rw[hw3]),by simpa using Hend.o⟩
   simp;omega
  have hx':=hx.alloc (.cells #[.int .i64 e.cl,.int .i64 e.op,.int .i64 e.ttl,.int .i64 e.tick,.slice A k c2] 83);have Hfin:=Y8 (Zl7.fin (s:=s) (w:=w) (w':=w1.alloc (.cells #[.int .i64 e.cl,.int .i64 e.op,.int .i64 e.ttl,.int .i64 e.tick,.slice A k c2] 83)) (v:=.slice a ps.length c) (t:=t) (ps:=ps) ⟨Hst.o.own.kept hx'.grownN (by cases hb:(Value.slice a ps.length c).ownBlock with|none=>exact .inl rfl|some k=>exact .inr (by simp)),fun p hp=>(Hst.o.nms p hp).ext hx',Hst.o.ext.trans hx',Hst.o.le,Hst.o.len,Hst.o.val⟩ (Fk fun e n=>Zyn (by rw[← Hsl.o];exact hf) e n));clear hx';clear hf hx;unfold Gn;go_wp2_with fail;go_ret2;exact Hfin.o
 have hd:decide ((ps.length:Int)<4096)=false:=by simp;omega
 have hd':¬ (ps.length:Int)<4096:=by omega
 have hz:4096-ps.length=0:=by omega
 have Hfin:=Y8 (Hst.o.fin (by rw[hz];rfl));clear hz;go_wp2_with fail;go_ret2;exact Hfin.o
