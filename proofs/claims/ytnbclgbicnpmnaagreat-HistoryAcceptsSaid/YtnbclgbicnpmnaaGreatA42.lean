/- Lemmas of this claim: Dp, Ds, Dq. Conditions: as named. -/
import Derived.Test.YtnbclgbicnpmnaaGreatA22
import Derived.Test.YtnbclgbicnpmnaaGreatA24
import Derived.Test.YtnbclgbicnpmnaaGreatA35
import Derived.Test.YtnbclgbicnpmnaaGreatA37
import Derived.Test.YtnbclgbicnpmnaaGreatA41
namespace Go.Proofs.YtnbclgbicnpmnaaGreat
open Go.RowKit Go.Sort
set_option maxHeartbeats 0
set_option maxRecDepth 100000
set_option linter.all false
theorem I5{ops:Array Oper}{S:World→Prop}{Q:Act→Prop}{l:List Oper}{dst:Option Nat}{x:Operand}{t:TypeId}{pos:String}{af:Array Edge}{gd:Option (Nat×Bool)}{a:Act}{b:Nat}{T:Tbl}
 (hw:Region.wanted {dst:=dst,op:=.load 34 x,type:=t,pos:=pos,after:=af,guard:=gd} (yielded ops a.tmps)=true) (hx:a.eval x=.pointer (some ⟨b,0,none⟩)) (hS:∀ w',S w'→Jm w' b T)
 (hK:Uh Tryz.prog ops S Q l (a.put dst (Vu T))):Uh Tryz.prog ops S Q ({dst:=dst,op:=.load 34 x,type:=t,pos:=pos,after:=af,guard:=gd}::l) a:=by
 refine⟨Vu T,.inl ⟨hw,fun w' hc=>?_⟩,hK⟩;unfold execOp;simp only[hx,Zjw,Zrr (hS w' hc),Zkp,Zjv]
theorem Ey(R:Ac):(Wb R).toArray.all (·.oneCell')=true:=by simp[Wb,Value.oneCell']
theorem Wg.box{w:World}{S:Nat→Prop}{T:Tbl}{b:Nat}{m:Vt}(h:Wg w S T b m):Jm w b T:=Zv9 h.cells
theorem Wg.nmv{w:World}{S:Nat→Prop}{T:Tbl}{b:Nat}{m:Vt}{v:Value}{l:List Nm}(h:Wg w S T b m)(hb:¬ S b)(hl:Vo w S v l):Wg (w.setCell ⟨b,17,none⟩ v) S T b {m with lv:=v,ns:=l} :=
 ⟨h.cells.set (j:=17) (by show 17<28;omega) _,Rd.chg hl ((Chg.refl (· = b) w).setCell (p:=⟨b,17,none⟩) (.inl rfl) _) (fun _ hk e=>hb (e▸hk)),Rd.chg h.rs ((Chg.refl (· = b) w).setCell (p:=⟨b,17,none⟩) (.inl rfl) _) (fun _ hk e=>hb (e▸hk))⟩
def Zyx(S:Nat→Prop)(T:Tbl)(mb:Nat)(m:Vt)(w:World)(e:Ending)(w':World):Prop :=
 ∃ (s:Int) (m':Vt),e=.returned (.int .i64 s)∧Wg w' S T mb m'∧Chg (· = mb) w w'∧m'.cl=m.cl∧m'.i=m.i∧m'.rs=m.rs∧0≤m'.ans.tick∧((s=3∧m'.st=7∧m'.ns=[]∧m'.ans.e≠0)∨(s=1∧m'.st=2∧1≤m'.ns.length∧m'.ns.length≤16∧KS m'.ns∧Zwk m'))
theorem Zxw{S:Nat→Prop}(T:Tbl)(hf:Few T)(hu:Uq T)(mb:Nat)(m:Vt)(w:World)(h:Wg w S T mb m)(hm:¬ S mb)(hT:Xl w S T)(hn:∀ k,w.heap.size≤k→S k):Calls Tryz.prog 149 #[.pointer (some ⟨mb,0,none⟩)] w (Zyx S T mb m w):=by
 have c14:w.cell? ⟨mb,14,none⟩=some (.string m.text):=h.c 14 rfl;have H:=Y4 h;have Hm:=Y4 hm;have HT:=Y4 hT;have Hn:=Y4 hn;have Hf:=Y4 hf;have Hu:=Y4 hu;clear h hm hT hn hf hu;go_enter Tryz.func149,Tryz.ntmps149;go_wp2_with fail;refine(parse_any m.text _).mono ?_;rintro e w2 ⟨op,ttl,v,l,er,rfl,hl,hpf,hx2⟩;have HPF:=Y4 hpf;obtain⟨A,C,rfl,_,_⟩:=hl.shape;obtain⟨n,hn⟩:=gnX (l.length);have Hl:=Y4 hl;have Hnn:=Y4 hn;rw[hn];clear hn hl c14;go_upto_if 14 with fail;have hr:=Xo.new w2 #[.int .i64 op,.int .i64 ttl,.slice A n C] 168;have hy:=hx2.alloc (.cells #[.int .i64 op,.int .i64 ttl,.slice A n C] 168);have hxa:=(Yl w2).alloc (.cells #[.int .i64 op,.int .i64 ttl,.slice A n C] 168);obtain⟨W3,hW3⟩:=gnX (w2.alloc (.cells #[.int .i64 op,.int .i64 ttl,.slice A n C] 168));obtain⟨rb,hrb⟩:=gnX (w2.heap.size);have hrm:rb≠mb:=by have h1:=H.o.cells.lt;have h2:=hx2.size;omega
 rw[hW3]at hr hy hxa;rw[hrb]at hr;rw[hW3,hrb];have HR:=Y4 hr;have Y3:=Y4 hy;have L3:=Y4 (show RdE Q6 W3 (fun _=>True) (.slice A n C) l by have:=Hl.o.ext hxa;rwa [Hnn.o]at this);have HMR:=Y4 hrm;clear hr hy hxa hW3 hrb hx2 hrm Hl;go_cut [] (fun wq=>∃ m1:Vt,Wg wq S T mb m1∧Chg (· = mb) W3 wq∧m1.cl=m.cl∧m1.i=m.i∧m1.rs=m.rs∧(m1.ans.e=0→er=0∧m1.ns.length=n∧1≤m1.ns.length∧m1.ns.length≤16∧KG m1.ns∧srt m1.ns=true)∧0≤m1.ans.tick);case first =>
  have M3:=Y4 (H.o.ext Y3.o);have hth:=M3.o.cells.there (o:=19) (n:=8) (by show 19+8≤28;omega);cases e1:(er==0)
  ·go_wp2_with (refine Zjz rfl _ _ _ rfl mb 19 (Wb ⟨er,-1,⟨#[]⟩,⟨0,0,⟨#[]⟩,0⟩,0⟩).toArray rfl rfl hth (by rw[J9];rfl) (Ey _) ?_);go_meet;exact⟨_,M3.o.ans Hm.o ⟨er,-1,⟨#[]⟩,⟨0,0,⟨#[]⟩,0⟩,0⟩,Xi (S:=(· = mb)) (.inl rfl) (Chg.refl _ _),rfl,rfl,rfl,fun h=>by simp only at h;simp[h]at e1,Zl7 _⟩
  have E1r:=Y4 e1;go_upto_region 4 with fail;refine Zlv (S:=fun w'=>Jm w' mb T∧w'.cell? ⟨rb,2,none⟩=some (.slice A n C)∧True) (by kernel_rfl) ?_ (fun hHeld=>?_)
  ·exact⟨(M3.o.ext (Yl W3).drew).box,HR.o.drew.at_ 2 (by simp),trivial⟩
  refine Xv [0,1,2,3,4,5,6,7] 11 (by rfl) (by kernel_rfl) (by kernel_rfl) (fun _ _ d _ _ h=>by cases d<;>exact h) hHeld ?_;simp only[Z3,Z4,Z5,Zw,Zx];repeat(first|((with_reducible refine I5 (by kernel_rfl) rfl (fun _ h=>h.1) ?_);(try simp only[Act.put,Zv,Zu,Zt]))|(refine Xt (v:=?_) (by kernel_rfl) ?_ ?_;rotate_left;(focus((intro wT hST;obtain⟨hS0,hS1,hS2⟩:=hST;go_simp);(first|done|(with_reducible rfl))));(try simp only[Act.put,Zv,Zu,Zt])))
  refine Xq ?_;clear hHeld;refine Zm8 (rs:=[8]) (by kernel_rfl) (by simp) ?_;refine Yr (o:=_) rfl (fun K hK=>?_) Yq;go_simp;refine(Zro T Hf.o Hu.o _ l _ ((HT.o.up Y3.o).up (Yl W3).drew) (Rd.ext L3.o (Yl W3).drew)).mono ?_;rintro e w5 ⟨nv,av,ns,r,rfl,hns,hlen,⟨hone,htk⟩,hx5⟩;have Y5:=Y4 ((Yl W3).drew.trans hx5);have M5:=Y4 (M3.o.ext Y5.o);have R5:=Y4 (HR.o.ext Y5.o);have N5:=Y4 (show Vo w5 S nv ns from Rd.mono hns fun k hk _=>Hn.o k (Zm5 Y3.o.size hk));obtain⟨An,Cn,rfl⟩:=hns.shape;have Hlen:=Y4 hlen;have Htk:=Y4 htk;refine hK.out _ _ ⟨M5.o.box,R5.o.at_ 2 (by simp),trivial⟩ (fun hHeld=>?_);clear hK K hx5 hns hlen hone hth htk;try simp only[Act.put,Zv,Zu,Zt]
  refine Xv [9,10,11,12,13,14] 4 (by rfl) (by kernel_rfl) (by kernel_rfl) (fun _ _ d _ _ h=>by cases d<;>exact h) hHeld ?_;simp only[Z3,Z4,Z5,Zw,Zx];repeat(refine Xt (v:=?_) (by kernel_rfl) ?_ ?_;rotate_left;(focus((intro wT hST;obtain⟨hS0,hS1,hS2⟩:=hST;go_simp);(first|done|(with_reducible rfl))));(try simp only[Act.put,Zv,Zu,Zt]))
  refine Xq ?_;clear hHeld;have c17:w5.cell? ⟨mb,17,none⟩=some m.lv:=M5.o.c 17 rfl;have fz:=M5.o.cells.fz;refine Zm8 (rs:=[15]) (by kernel_rfl) (by simp) ?_;refine Yr (o:=_) rfl (fun K hK=>?_) Yq;go_simp;have M6:=Y4 (M5.o.nmv Hm.o N5.o);have R6:=Y4 (R5.o.far HMR.o (j:=17) (.slice An ns.length Cn));have C6:=Y4 ((Y5.o.chg (· = mb)).setCell (p:=⟨mb,17,none⟩) (.inl rfl) (.slice An ns.length Cn));refine hK.out _ _ ⟨M6.o.box,R6.o.at_ 2 (by simp),trivial⟩ (fun hHeld=>?_);clear hK K M5 R5 N5 c17 fz;try simp only[Act.put,Zv,Zu,Zt]
  obtain⟨W6,hW6⟩:=gnX (w5.setCell ⟨mb,17,none⟩ (.slice An ns.length Cn));rw[hW6]at M6 R6 C6 hHeld;rw[hW6];clear hW6;refine Xv [16,17] 1 (by rfl) (by kernel_rfl) (by kernel_rfl) (fun _ _ d _ _ h=>by cases d<;>exact h) hHeld ?_;simp only[Z3,Z4,Z5,Zw,Zx];repeat(refine Xt (v:=?_) (by kernel_rfl) ?_ ?_;rotate_left;(focus((intro wT hST;obtain⟨hS0,hS1,hS2⟩:=hST;go_simp);(first|done|(with_reducible rfl))));(try simp only[Act.put,Zv,Zu,Zt]))
  refine Xq ?_;clear hHeld;have hth:=M6.o.cells.there (o:=19) (n:=8) (by show 19+8≤28;omega);refine Zm8 (rs:=[18]) (by kernel_rfl) (by simp) ?_;refine Yr (o:=_) rfl (fun K hK=>?_) Yq;refine J0 rfl _ _ _ rfl mb 19 (Wb r).toArray rfl rfl hth (by rw[J9];rfl) (Ey _) ?_;have M7:=Y4 (M6.o.ans Hm.o r);have C7:=Y4 (Xi (S:=(· = mb)) (b:=mb) (.inl rfl) (vs:=Wb r) (o:=19) C6.o);have R7:=Y4 (R6.o.chg (Xi (S:=(· = mb)) (b:=mb) (.inl rfl) (vs:=Wb r) (o:=19) (Chg.refl _ W6)) HMR.o);refine hK.out _ _ ⟨M7.o.box,R7.o.at_ 2 (by simp),trivial⟩ (fun hHeld=>?_);refine Zlh (by kernel_rfl) ?_ _;rename_i J1 K1 hJ hM h9;clear hK K;go_simp;refine hM _ _ (hJ _ _ ?_);(repeat apply Exists.intro)
  exact⟨⟨_,M7.o,C7.o,rfl,rfl,rfl,fun h=>⟨by simpa using E1r.o,by have:=(Hlen.o h).1;rwa [Hnn.o]at this,(Hlen.o h).2⟩,Htk.o⟩,rfl⟩
 obtain⟨m1,hM,hC,e1,e2,e3,e4,e5⟩:=hcut;rename World=>w4
 have M4:=Y4 hM;have C4:=Y4 ((Y3.o.chg (· = mb)).trans hC);have R4:=Y4 (HR.o.chg hC HMR.o);have c19:w4.cell? ⟨mb,19,none⟩=some (.int .i64 m1.ans.e):=hM.c 19 rfl;have c17:w4.cell? ⟨mb,17,none⟩=some m1.lv:=hM.c 17 rfl;have c13:w4.cell? ⟨mb,13,none⟩=some (.int .i64 m1.st):=hM.c 13 rfl;have fz:=hM.cells.fz;have E1:=Y4 e1;have E2:=Y4 e2;have E3:=Y4 e3;have E4:=Y4 e4;have E5:=Y4 e5;clear hM hC e1 e2 e3 e4 e5 HR Y3 L3;cases q:(m1.ans.e==0)
 ·have HQ:=Y4 (show m1.ans.e≠0 by simpa using q);go_wp2_with fail;go_ret;refine⟨3,{m1 with lv:=.slice none 0 0,ns:=[],st:=7},rfl,?_,?_,E1.o,E2.o,E3.o,E5.o,.inl ⟨rfl,rfl,rfl,HQ.o⟩⟩
  ·exact(M4.o.nmv Hm.o (v:=.slice none 0 0) (l:=[]) (Rd.nil _ _ _)).put (m':={m1 with lv:=.slice none 0 0,ns:=[],st:=7}) Hm.o (by omega) rfl rfl rfl rfl rfl
  exact(C4.o.setCell (p:=⟨mb,17,none⟩) (.inl rfl) _).setCell (p:=⟨mb,13,none⟩) (.inl rfl) _
 have hth:=M4.o.cells.there (o:=19) (n:=8) (by show 19+8≤28;omega);have hz:m1.ans.e=0:=by simpa using q
 have Hz:=Y4 hz;clear hz;go_upto_region 9 with(refine Zjz rfl _ _ _ rfl mb 19 (Wb ⟨0,0,⟨#[]⟩,⟨0,0,⟨#[]⟩,0⟩,0⟩).toArray rfl rfl hth (by rw[J9];rfl) (Ey _) ?_);have M5:=Y4 (M4.o.ans Hm.o ⟨0,0,⟨#[]⟩,⟨0,0,⟨#[]⟩,0⟩,0⟩);have C5:=Y4 (Xi (S:=(· = mb)) (b:=mb) (.inl rfl) (vs:=Wb ⟨0,0,⟨#[]⟩,⟨0,0,⟨#[]⟩,0⟩,0⟩) (o:=19) C4.o);have R5:=Y4 (R4.o.chg (Xi (S:=(· = mb)) (b:=mb) (.inl rfl) (vs:=Wb ⟨0,0,⟨#[]⟩,⟨0,0,⟨#[]⟩,0⟩,0⟩) (o:=19) (Chg.refl _ w4)) HMR.o);obtain⟨W5,hW5⟩:=gnX (w4.setCells mb 19 (Wb ⟨0,0,⟨#[]⟩,⟨0,0,⟨#[]⟩,0⟩,0⟩));rw[hW5]at M5 C5 R5;rw[show w4.setCells mb 19 (Wb ⟨0,0,⟨#[]⟩,⟨0,0,⟨#[]⟩,0⟩,0⟩).toArray.toList=W5 from hW5];clear hW5 hth c19 c17 c13 fz M4 C4 R4 q;refine Zlv (S:=fun w'=>w'.cell? ⟨rb,0,none⟩=some (.int .i64 op)∧w'.cell? ⟨rb,1,none⟩=some (.int .i64 ttl)∧True) (by kernel_rfl) ?_ (fun hHeld=>?_)
 ·exact⟨R5.o.drew.at_ 0 (by simp),R5.o.drew.at_ 1 (by simp),trivial⟩
 have M5:=Y4 (M5.o.ext (Yl W5).drew);have C5:=Y4 C5.o.drew;have R5:=Y4 R5.o.drew;obtain⟨Wd,hWd⟩:=gnX (W5.drew);rw[hWd]at M5 C5 R5 hHeld;rw[hWd];clear hWd;refine Xv [0,1,2,3,4,5,6,7,8] 7 (by rfl) (by kernel_rfl) (by kernel_rfl) (fun _ _ d _ _ h=>by cases d<;>exact h) hHeld ?_;simp only[Z3,Z4,Z5,Zw,Zx];repeat(refine Xt (v:=?_) (by kernel_rfl) ?_ ?_;rotate_left;(focus((intro wT hST;obtain⟨hS0,hS1,hS2⟩:=hST;go_simp);(first|done|(with_reducible rfl))));(try simp only[Act.put,Zv,Zu,Zt]))
 refine Xq ?_;clear hHeld;have c15:Wd.cell? ⟨mb,15,none⟩=some (.int .i64 m1.op):=M5.o.c 15 rfl;have fz:=M5.o.cells.fz;refine Zm8 (rs:=[9]) (by kernel_rfl) (by simp) ?_;refine Yr (o:=_) rfl (fun K hK=>?_) Yq;go_simp;have M6:=Y4 (M5.o.put (m':={m1 with ans:=⟨0,0,⟨#[]⟩,⟨0,0,⟨#[]⟩,0⟩,0⟩,op:=op}) Hm.o (j:=15) (by omega) (v:=.int .i64 op) rfl rfl rfl rfl rfl);have C6:=Y4 (C5.o.setCell (p:=⟨mb,15,none⟩) (.inl rfl) (.int .i64 op));have R6:=Y4 (R5.o.far HMR.o (j:=15) (.int .i64 op));refine hK.out _ _ ⟨R6.o.at_ 0 (by simp),R6.o.at_ 1 (by simp),trivial⟩ (fun hHeld=>?_);clear hK K c15 fz M5 C5 R5;try simp only[Act.put,Zv,Zu,Zt]
 obtain⟨W6,hPW⟩:=gnX (Wd.setCell ⟨mb,15,none⟩ (.int .i64 op));rw[hPW]at M6 C6 R6 hHeld;rw[hPW];clear hPW;refine Xv [10,11] 4 (by rfl) (by kernel_rfl) (by kernel_rfl) (fun _ _ d _ _ h=>by cases d<;>exact h) hHeld ?_;simp only[Z3,Z4,Z5,Zw,Zx];repeat(refine Xt (v:=?_) (by kernel_rfl) ?_ ?_;rotate_left;(focus((intro wT hST;obtain⟨hS0,hS1,hS2⟩:=hST;go_simp);(first|done|(with_reducible rfl))));(try simp only[Act.put,Zv,Zu,Zt]))
 refine Xq ?_;clear hHeld;have c16:W6.cell? ⟨mb,16,none⟩=some (.int .i64 m1.ttl):=M6.o.c 16 rfl;have fz:=M6.o.cells.fz;refine Zm8 (rs:=[12]) (by kernel_rfl) (by simp) ?_;refine Yr (o:=_) rfl (fun K hK=>?_) Yq;go_simp;have M7:=Y4 (M6.o.put (m':={m1 with ans:=⟨0,0,⟨#[]⟩,⟨0,0,⟨#[]⟩,0⟩,0⟩,op:=op,ttl:=ttl}) Hm.o (j:=16) (by omega) (v:=.int .i64 ttl) rfl rfl rfl rfl rfl);have C7:=Y4 (C6.o.setCell (p:=⟨mb,16,none⟩) (.inl rfl) (.int .i64 ttl));have R7:=Y4 (R6.o.far HMR.o (j:=16) (.int .i64 ttl));refine hK.out _ _ ⟨R7.o.at_ 0 (by simp),R7.o.at_ 1 (by simp),trivial⟩ (fun hHeld=>?_);clear hK K c16 fz M6 C6 R6;try simp only[Act.put,Zv,Zu,Zt]
 obtain⟨W7,hPW⟩:=gnX (W6.setCell ⟨mb,16,none⟩ (.int .i64 ttl));rw[hPW]at M7 C7 R7 hHeld;rw[hPW];clear hPW;refine Xv [13,14] 1 (by rfl) (by kernel_rfl) (by kernel_rfl) (fun _ _ d _ _ h=>by cases d<;>exact h) hHeld ?_;simp only[Z3,Z4,Z5,Zw,Zx];repeat(refine Xt (v:=?_) (by kernel_rfl) ?_ ?_;rotate_left;(focus((intro wT hST;obtain⟨hS0,hS1,hS2⟩:=hST;go_simp);(first|done|(with_reducible rfl))));(try simp only[Act.put,Zv,Zu,Zt]))
 refine Xq ?_;clear hHeld;have c13:W7.cell? ⟨mb,13,none⟩=some (.int .i64 m1.st):=M7.o.c 13 rfl;have fz:=M7.o.cells.fz;refine Zm8 (rs:=[15]) (by kernel_rfl) (by simp) ?_;refine Yr (o:=_) rfl (fun K hK=>?_) Yq;go_simp;have M8:=Y4 (M7.o.put (m':={m1 with ans:=⟨0,0,⟨#[]⟩,⟨0,0,⟨#[]⟩,0⟩,0⟩,op:=op,ttl:=ttl,st:=2}) Hm.o (j:=13) (by omega) (v:=.int .i64 2) rfl rfl rfl rfl rfl);have C8:=Y4 (C7.o.setCell (p:=⟨mb,13,none⟩) (.inl rfl) (.int .i64 2));have R8:=Y4 (R7.o.far HMR.o (j:=13) (.int .i64 2));refine hK.out _ _ ⟨R8.o.at_ 0 (by simp),R8.o.at_ 1 (by simp),trivial⟩ (fun hHeld=>?_);clear hHeld hK K c13 fz M7 C7 R7;try simp only[Act.put,Zv,Zu,Zt]
 refine Zlh (by kernel_rfl) ?_ _;go_simp;go_wp2_with fail;go_ret;exact⟨1,{m1 with ans:=⟨0,0,⟨#[]⟩,⟨0,0,⟨#[]⟩,0⟩,0⟩,op:=op,ttl:=ttl,st:=2},rfl,M8.o,C8.o,E1.o,E2.o,E3.o,Zl7 _,.inr ⟨rfl,rfl,(E4.o Hz.o).2.2.1,(E4.o Hz.o).2.2.2.1,(E4.o Hz.o).2.2.2.2.1.1,by
  obtain⟨q0,q1,q2,q3,q4,q5⟩:=E4.o Hz.o;have pf:=HPF.o q0;exact⟨pf.o0,pf.o1,pf.t1,pf.t0,q2,q3,fun h=>by have h1:=pf.q h;have h2:=Hnn.o;show m1.ns.length≤1;omega,q5,q4.2⟩⟩⟩
theorem Zxb{S:Nat→Prop}(T:Tbl)(hf:Few T)(hu:Uq T)(mb xb:Nat)(m:Vt)(x:Shr)(w:World)(h:K0 S T mb xb m x w)(hs:m.st=1):Calls Tryz.prog 115 #[.pointer (some ⟨mb,0,none⟩),.pointer (some ⟨xb,0,none⟩)] w (Jx S T mb xb m x w):=by
 have z13:w.cell? ⟨mb,13,none⟩=some (.int .i64 m.st):=h.mach.c 13 rfl;have H:=Y4 h;have Hs:=Y4 hs;have Hf:=Y4 hf;have Hu:=Y4 hu;rw[hs]at z13;clear h hs hf hu;go_enter Tryz.func115,Tryz.ntmps115;go_wp2_with fail;refine(Zxw T Hf.o Hu.o mb m _ H.o.mach H.o.sm H.o.tbl H.o.new).mono ?_;rintro e w2 ⟨s,m',rfl,hM,hC,e1,e2,e3,et,hend⟩;have HE2:=Y4 e2;have HE:=Y4 (show Zwh S T mb xb m x w s m' x w2 from by
  have k0:=H.o.mok;obtain⟨r1,r2⟩:=k0.e2 (by rw[Hs.o];omega) (by rw[Hs.o];omega);have r2:=r2 Hs.o;refine⟨hM,?_,H.o.shr.chg hC H.o.ne.symm (fun _ hk e=>H.o.sm (e▸hk)),hC.mono fun _ _ e=>.inl e,fun _ h=>h.up,fun _=>by rw[Hs.o];omega,fun _=>?_,?_⟩
  ·have c0:=k0.c0;have c1:=k0.c1.1;rcases hend with⟨_,h7,hns,_⟩ | ⟨_,h2,l1,l2,lk,_⟩
   ·exact⟨by omega,by omega,by omega,⟨by omega,by rw[hns];exact KS.nil,et⟩,fun _ h=>by omega,fun h=>by omega,fun h=>by omega,fun _ h=>by omega,fun _ h=>by omega⟩
   exact⟨by omega,by omega,by omega,⟨by omega,lk,et⟩,fun _ _=>by omega,fun h=>by omega,fun h=>by omega,fun h=>by omega,fun _ _=>⟨by rw[e3];exact r1,fun h=>by omega⟩⟩
  ·rcases hend with⟨h3,_⟩ | ⟨_,h2,_⟩
   ·exact .inl h3
   exact .inr h2
  rcases hend with⟨h3,h7,hns,he⟩ | ⟨h1,h2,_,_,_,hq⟩
  ·rw[h3];exact .bad m' Hs.o h7 e1 HE2.o hns he
  rw[h1];exact .req m' Hs.o h2 e1 HE2.o hq)
 clear hM hC e1 e2 e3 et hend z13;go_wp2_with fail;go_ret;exact⟨s,m',x,rfl,HE.o⟩
theorem Zr9{S:Nat→Prop}(T:Tbl)(hf:Few T)(hu:Uq T)(mb xb:Nat)(m:Vt)(x:Shr)(w:World)(t:Nat)(hx:XOk t x)(ht:t≤100000)(h:K0 S T mb xb m x w):Calls Tryz.prog 115 #[.pointer (some ⟨mb,0,none⟩),.pointer (some ⟨xb,0,none⟩)] w (Jx S T mb xb m x w):=by
 have h0:=h.mok.s0;have h7:=h.mok.s1;rcases(show m.st=0∨m.st=1∨m.st=2∨m.st=3∨m.st=4∨m.st=5∨m.st=6∨m.st=7 by omega)with e|e|e|e|e|e|e|e
 ·exact Ztq T mb xb m x w h e
 ·exact Zxb T hf hu mb xb m x w h e
 ·exact Ztp T mb xb m x w t hx ht h e
 ·exact Zto T mb xb m x w t hx ht h e
 ·exact I2 T mb xb m x w t hx (by omega) h e
 ·exact Zx0 T mb xb m x w t hx ht h e
 ·exact Ztr T mb xb m x w t hx ht h e
 exact Zxa T mb xb m x w h e
section
variable {cc:Int×Int}
def Zt6(cc:Int×Int)(d:Dk)(t:Int):Prop:=Lin cc.1 cc.2 d.x (d.ms.map Prod.snd) (d.ops.map Subtype.val) d.last t
def V3(cc:Int×Int)(d:Dk):Prop:=Zt6 cc d d.t
theorem V3.at_{d:Dk}(h:V3 cc d){j:Nat}{p:Nat×Vt}{z:Int}(h1:d.ms[j]?=some p)(h2:d.last[j]?=some z)(h3:p.2.st≠0):0≤z∧z<d.ops.length:=by
 obtain⟨_,M,_,hO,_⟩:=h;obtain⟨zn,o,e1,e2,_⟩:=hO.cur j p.2 z (by rw[Zn,h1];rfl) h2 h3;have:=(Zr.1 e2).1;rw[Zq]at this;omega
theorem V3.up{d:Dk}(h:V3 cc d):Zt6 cc d ((d.t:Int)+1):=Lin.up h
theorem V3.next{d:Dk}{t1:Nat}(h:Zt6 cc d ((d.t:Int)+1))(e:d.t+1=t1):V3 cc {d with t:=t1}:=by
 subst e;show Lin _ _ _ _ _ _ ((d.t+1:Nat):Int);rw[show((d.t+1:Nat):Int)=(d.t:Int)+1 by omega];exact h
theorem Rl{m:Vt}(h:MOk m)(x:ByteArray):MOk (Qi m.cl x) :=
 ⟨by simp[Qi],by simp[Qi],h.c0,⟨h.c1.1,KS.nil,Zl7 _⟩,fun h=>by simp[Qi]at h,fun h=>by simp[Qi]at h,fun h=>by simp[Qi]at h,fun h=>by simp[Qi]at h,fun _ _=>⟨rfl,fun _=>rfl⟩⟩
def Oz(cc:Int×Int)(U:Nat→Prop)(T:Tbl)(b B:Nat)(d:Dk)(w:World)(e:Ending)(w':World):Prop :=
 ∃ (r:Bool) (d':Dk) (U':Nat→Prop),e=.returned (.bool r)∧Ww w' U' T b B d'∧Zt6 cc d' ((d.t:Int)+1)∧Chg U w w'∧d'.ms.length=d.ms.length∧d'.t=d.t∧d'.n≤d.n+1∧∀ k,U' k→U k∨w.heap.size≤k
theorem Ww.big{w:World}{U:Nat→Prop}{T:Tbl}{b B:Nat}{d:Dk}(h:Ww w U T b B d):B≤w.heap.size:=by
 have:=h.hU b h.ub;omega
theorem Pu{w:World}{S:Nat→Prop}{v:Value}{l:List Nat}{k x:Nat}(h:RdE Zr1 w S v l)(hk:l[k]?=some x):∃ g o c,v=.slice (some ⟨g,o,none⟩) l.length c∧w.cell? ⟨g,o+k,none⟩=some (Zoa x):=by
 obtain⟨g,o,c,hv,_,_,_,_,hc⟩:=Rd.at_ h (Zr.1 hk).1;exact⟨g,o,c,hv,hc k _ (Zo1 hk)⟩
def Iw(k t:Int):OpS:=⟨⟨k,0,0,.slice none 0 0,[],⟨0,0,⟨#[]⟩,⟨0,0,⟨#[]⟩,0⟩,0⟩,t,-1,-1,⟨0,0,⟨#[]⟩,⟨0,0,⟨#[]⟩,0⟩,0⟩⟩,rfl⟩
theorem Zoi(w:World)(k t:Int)(ty:TypeId)(g:Nat)(hg:w.heap.size=g):RdE opE (w.alloc (.cells (opC (Iw k t).1).toArray ty)) (fun _=>True) (.slice (some ⟨g,0,none⟩) 1 1) [Iw k t]:=by
 subst hg;exact Qu w (opC (Iw k t).1).toArray ty 23 rfl
theorem Zox{d:Dk}{k mb:Nat}{m:Vt}(h:V3 cc d)(hk:d.ms[k]?=some (mb,m))(hs:m.st=0)(ok:MOk m)(x:ByteArray) :
 Lin cc.1 cc.2 d.x ((d.ms.set k (mb,Qi m.cl x)).map Prod.snd) ((d.ops++[Iw (k:Int) (d.t:Int)]).map Subtype.val) (d.last.set k (d.ops.length:Int)) ((d.t:Int)+1):=by
 have:=Lin.new h (by omega) (k:=k) (m:=m) (m':=Qi m.cl x) (o':=(Iw (k:Int) (d.t:Int)).1) (by rw[Zn,hk];rfl) hs rfl rfl (Rl ok x) rfl rfl rfl rfl rfl;rw[Zq]at this;rw[Zj4,Yy];exact this
theorem Zud{U:Nat→Prop}(T:Tbl)(b B k mb:Nat)(m:Vt)(d:Dk)(w:World)(h:Ww w U T b B d)(hl:V3 cc d)(hk:d.ms[k]?=some (mb,m))(hs:m.st=0):Calls Tryz.prog 78 #[.pointer (some ⟨b,0,none⟩),.int .i64 (k:Int)] w (Oz cc U T b B d w):=by
 have hkl:=(Zr.1 hk).1;obtain⟨nn,hnn⟩:=gnX (d.ms.length);rw[hnn]at hkl;have hn64:nn≤64:=by have:=h.lm;omega
 obtain⟨gm,om,cm,hmv,cmk⟩:=Pu h.ptr (k:=k) (x:=mb) (by rw[Zn,hk];rfl);rw[Zq,hnn]at hmv;have c1:w.cell? ⟨b,1,none⟩=some d.mv:=h.c 1 rfl;rw[hmv]at c1;have hM:=(h.mach _ (Zy hk)).1;have z13:w.cell? ⟨mb,13,none⟩=some (.int .i64 m.st):=hM.c 13 rfl;rw[hs]at z13;have k0:(0:Int)≤(k:Int):=by omega
 have k1:(k:Int)<(nn:Int):=by omega
 obtain⟨s,hsx⟩:∃ s,d.bx[k]?=some s:=⟨d.bx[k]'(by rw[h.lb,hnn];exact hkl),Zz _⟩;obtain⟨l,hlx⟩:∃ l,d.bs_[k]?=some l:=⟨d.bs_[k]'(by rw[h.lbs,hnn];exact hkl),Zz _⟩;obtain⟨hbr,hb8⟩:=h.boxes k s l hsx hlx;obtain⟨sa,sn,sc⟩:=s;obtain⟨_,_,hse,hsc,hscm⟩:=hbr.shape;simp only[Sl.v,Ye]at hse;obtain⟨rfl,hsn,rfl⟩:=hse;have hbx:d.bx.length=nn:=by rw[h.lb];exact hnn
 have c2:w.cell? ⟨b,2,none⟩=some (.slice (some ⟨d.gb,0,none⟩) nn d.cb):=by rw[← hbx];exact h.c 2 rfl
 have ck:w.cell? ⟨d.gb,k,none⟩=some (.slice sa sn sc):=Own.at_ (E:=ssE) h.box (Su hsx);have c3:w.cell? ⟨b,3,none⟩=some d.ov:=h.c 3 rfl;obtain⟨Ao,Co,hov,_,_⟩:=h.own.shape;obtain⟨no,hno⟩:=gnX (d.ops.length);rw[hno]at hov;rw[hov]at c3;have H:=Y4 h;have Hl:=Y4 hl;have Hk:=Y4 hk;have Hs:=Y4 hs;have Hnn:=Y4 hnn;have Hno:=Y4 hno;have Hov:=Y4 hov;have Hsx:=Y4 hsx;have Hlx:=Y4 hlx;have Hbr:=Y4 hbr;have Hb8:=Y4 hb8;have Hmv:=Y4 hmv;have Hbx:=Y4 hbx;have Hsn:=Y4 hsn;have HMm:=Y4 hM;clear h hl hk hs hnn hmv hM hsx hlx hbr hb8 hov hno hbx hsn;unfold Zoa at cmk;by_cases hs0:sn=0
 ·have d1:((sn:Int)==0)=true:=by simp[hs0]
  go_enter Tryz.func78,Tryz.ntmps78;go_wp2_with fail;go_ret;exact⟨false,d,U,rfl,H.o,Hl.o.up,Chg.refl _ _,rfl,rfl,by omega,fun _=>.inl⟩
 have d1:((sn:Int)==0)=false:=by simp;omega
 have d1b:(sn==0)=false:=by simp;omega
 by_cases ho:4096≤no
 ·have d2:decide ((4096:Int)≤(no:Int))=true:=Yf;go_enter Tryz.func78,Tryz.ntmps78;go_wp2_with fail;go_ret;exact⟨false,d,U,rfl,H.o,Hl.o.up,Chg.refl _ _,rfl,rfl,by omega,fun _=>.inl⟩
 have d2:decide ((4096:Int)≤(no:Int))=false:=Yg;obtain⟨x,hx⟩:=geX (l:=l) (i:=0) (by rw[← Hsn.o];omega);obtain⟨ga,oa,ca,hse,_,_,hgS,hga,hcc⟩:=Rd.at_ Hbr.o (k:=0) (by rw[← Hsn.o];omega);simp only[Sl.v,Ye]at hse;obtain⟨rfl,-,rfl⟩:=hse;have cx:w.cell? ⟨ga,oa,none⟩=some (.string x):=hcc 0 _ (by show(l.map Value.string)[0]?=_;rw[Zn,hx];rfl);have sn0:(0:Int)<(sn:Int):=by omega
 have sn1:0<sn:=by omega
 go_enter Tryz.func78,Tryz.ntmps78;go_wp2_with fail;refine(Zw1 T mb m x w HMm.o.cells H.o.tbl Hs.o).mono ?_;rintro e w2 ⟨rfl,hB2,hC2⟩;have hmu:=H.o.um _ (Zy Hk.o);have D2:=Y4 (show Ww w2 U T b B {d with x:=d.x,ms:=d.ms.set k (mb,Qi m.cl x),n:=d.n+1} from
  H.o.step Hk.o (hC2.mono fun _ _ e=>.inl e) ⟨hB2,Rd.nil _ _ _,Rd.nil _ _ _⟩
   (Rl (H.o.mach _ (Zy Hk.o)).2 x)
   (H.o.shr.chg hC2 (H.o.ne.2.2.2.2.2.2 _ (Zy Hk.o)).2.1.symm (fun _ hj e=>hj (e▸hmu))) H.o.xok.up)
 have C2:=Y4 (show Chg U w w2 from hC2.mono fun _ _ e=>by rw[e];exact hmu);clear hB2 hC2 c1 cmk z13 c2 ck c3 cx;go_upto_region 6 with fail;have m2:=lat (show w2.cell? ⟨b,2,none⟩=some (.slice (some ⟨d.gb,0,none⟩) nn d.cb) from by rw[← Hbx.o];exact D2.o.c 2 rfl);have mk:=lat (show w2.cell? ⟨d.gb,k,none⟩=some (.slice (some ⟨ga,oa,none⟩) sn sc) from Own.at_ (E:=ssE) D2.o.box (Su Hsx.o));have q1:(1:Int)≤(sn:Int):=by omega
 have q0:sn≤sc:=by have:=Hsn.o;omega
 have q2:(1:Int)≤(sc:Int):=by omega
 have q3:1≤sn:=by omega
 have q4:1≤sc:=by omega
 refine Xf 13 15 (by kernel_rfl) (by omega) (by kernel_rfl) (by kernel_rfl) (by kernel_rfl) ?_;simp only[Z6,Z7,Z8,Z9];repeat((with_reducible refine Yu ?_);intro K hK;go_simp;(with_reducible refine hK _ ?_);clear hK K)
 (with_reducible refine Yt ?_)
 intro w3 hy3;obtain⟨A2,hA2⟩:=gnX ((if sc=1 then some (⟨ga,oa,none⟩:Addr)else some ⟨ga,oa+1,none⟩));rw[hA2];have D3:=Y4 (D2.o.ext hy3);have r3:RdE Q6 w3 (fun j=>¬ U j) (.slice (some ⟨ga,oa,none⟩) sn sc) l:=(D3.o.boxes k _ l Hsx.o Hlx.o).1;have r4:RdE Q6 w3 (fun j=>¬ U j) (.slice A2 (sn-1) (sc-1)) (l.drop 1):=RdE.drop r3 rfl (by have:=Hsn.o;omega) (by have:=Hsn.o;omega) (fun hp=>by rw[← hA2,Zm2 (by omega)]) (by omega) (by unfold maxLen at hscm⊢;omega);have hk':k<(d.ms.set k (mb,Qi m.cl x)).length:=by rw[Zf,Hnn.o];exact hkl
 have D4:=Y4 (D3.o.setBox hk' ⟨A2,sn-1,sc-1⟩ (l.drop 1) r4 (by rw[Yz];have:=Hb8.o;omega));have C4:=Y4 ((C2.o.trans (hy3.chg _)).setCell (p:=⟨d.gb,k,none⟩) (.inl H.o.ugb) (Sl.v ⟨A2,sn-1,sc-1⟩));have ck:w3.cell? ⟨d.gb,k,none⟩=some (.slice (some ⟨ga,oa,none⟩) sn sc):=Own.at_ (E:=ssE) D3.o.box (Su Hsx.o);have fz:w3.frozen? ⟨d.gb,k,none⟩=false:=Own.thaw (E:=ssE) D3.o.box k;clear r3 r4 hy3 m2 mk D2 C2 hA2 hscm hsc;go_upto_region 7 with fail;obtain⟨W4,hW4⟩:=gnX (w3.setCell ⟨d.gb,k,none⟩ (.slice A2 (sn-1) (sc-1)));rw[show w3.setCell ⟨d.gb,k,none⟩ (Sl.v ⟨A2,sn-1,sc-1⟩)=W4 from hW4]at D4 C4;rw[hW4];clear hW4 ck fz D3;obtain⟨z0,hz0⟩:∃ z,d.last[k]?=some z:=⟨d.last[k]'(by rw[H.o.ll,Hnn.o];exact hkl),Zz _⟩;have hll:d.last.length=nn:=by rw[H.o.ll];exact Hnn.o
 have m4:=lat (show W4.cell? ⟨b,4,none⟩=some (.slice (some ⟨d.gl,0,none⟩) nn d.cl) from by rw[← hll];exact D4.o.c 4 rfl);have m3:=lat (show W4.cell? ⟨b,3,none⟩=some (.slice Ao no Co) from by rw[← Hov.o];exact D4.o.c 3 rfl);refine Xf 10 12 (by kernel_rfl) (by omega) (by kernel_rfl) (by kernel_rfl) (by kernel_rfl) ?_;simp only[Z6,Z7,Z8,Z9];repeat((with_reducible refine Yu ?_);intro K hK;go_simp;(with_reducible refine hK _ ?_);clear hK K)
 (with_reducible refine Yt ?_)
 intro w5 hy5;have D5a:=Y4 (D4.o.ext hy5);have cl:w5.cell? ⟨d.gl,k,none⟩=some (.int .i64 z0):=Own.at_ (E:=Wi) D5a.o.lown (ints_at hz0);have fz:w5.frozen? ⟨d.gl,k,none⟩=false:=Own.thaw (E:=Wi) D5a.o.lown k;have D5:=Y4 (D5a.o.setLast hk' (no:Int));have C5:=Y4 ((C4.o.trans (hy5.chg _)).setCell (p:=⟨d.gl,k,none⟩) (.inl H.o.ugl) (.int .i64 (no:Int)));clear hy5 m4 m3 D4 C4 D5a hz0;go_upto_region 8 with fail;obtain⟨W5,hW5⟩:=gnX (w5.setCell ⟨d.gl,k,none⟩ (.int .i64 (no:Int)));rw[hW5]at D5 C5;rw[hW5];clear hW5 cl fz;have c3:W5.cell? ⟨b,3,none⟩=some (.slice Ao no Co):=by rw[← Hov.o];exact D5.o.c 3 rfl
 have c5:W5.cell? ⟨b,5,none⟩=some (.int .i64 (d.t:Int)):=D5.o.c 5 rfl;refine Qz (S:=fun w'=>w'.cell? ⟨b,3,none⟩=some (.slice Ao no Co)∧w'.cell? ⟨b,5,none⟩=some (.int .i64 (d.t:Int))∧True) 13 16 (by kernel_rfl) (by omega) (by kernel_rfl) (by kernel_rfl) ?_;refine Kk 11 2 (by rfl) (by decide) (by kernel_rfl) (by kernel_rfl) (fun _ _ d _ _ h=>by cases d<;>exact h) ⟨c3,c5,trivial⟩ ?_;simp only[Z8,Z9];repeat(refine Xt (v:=?_) (by kernel_rfl) ?_ ?_;rotate_left;(focus((intro wT hST;obtain⟨hS0,hS1,hS2⟩:=hST;go_simp);(first|done|(with_reducible rfl))));(try simp only[Act.put,Zv,Zu,Zt]))
 refine Xq ?_;have x6:Ext W5 (W5.alloc (.cells #[.int .i64 (k:Int),.int .i64 0,.int .i64 0,.slice none 0 0,.int .i64 0,.int .i64 0,.string ⟨#[]⟩,.int .i64 0,.int .i64 0,.string ⟨#[]⟩,.int .i64 0,.int .i64 0,.int .i64 (d.t:Int),.int .i64 (-1),.int .i64 (-1),.int .i64 0,.int .i64 0,.string ⟨#[]⟩,.int .i64 0,.int .i64 0,.string ⟨#[]⟩,.int .i64 0,.int .i64 0] 55)).drew:=((Yl W5).alloc _).drew;have D6:=Y4 (D5.o.ext x6);have H6:=Y4 (RdE.ext (Zoi W5 (k:Int) (d.t:Int) 55 _ rfl) (Yl _).drew);have C6:=Y4 (C5.o.trans (x6.chg _));refine Zm8 (rs:=[11]) (by kernel_rfl) (by simp) ?_;refine Yr (o:=_) rfl (fun K hK=>?_) Yq;go_simp;obtain⟨W6,hW6⟩:=gnX ((W5.alloc (.cells #[.int .i64 (k:Int),.int .i64 0,.int .i64 0,.slice none 0 0,.int .i64 0,.int .i64 0,.string ⟨#[]⟩,.int .i64 0,.int .i64 0,.string ⟨#[]⟩,.int .i64 0,.int .i64 0,.int .i64 (d.t:Int),.int .i64 (-1),.int .i64 (-1),.int .i64 0,.int .i64 0,.string ⟨#[]⟩,.int .i64 0,.int .i64 0,.string ⟨#[]⟩,.int .i64 0,.int .i64 0] 55)).drew);replace H6:Y0 (RdE opE W6 (fun _=>True) (.slice (some ⟨W5.heap.size,0,none⟩) 1 1) [Iw (k:Int) (d.t:Int)]):=hW6▸H6;rw[hW6]at D6 C6;rw[hW6];clear hW6 x6;have c3':W6.cell? ⟨b,3,none⟩=some (.slice Ao no Co):=by rw[← Hov.o];exact D6.o.c 3 rfl
 have c5':W6.cell? ⟨b,5,none⟩=some (.int .i64 (d.t:Int)):=D6.o.c 5 rfl;refine hK.out _ _ ⟨c3',c5',trivial⟩ (fun hHeld=>?_);clear hHeld hK K;try simp only[Act.put,Zv,Zu,Zt]
 have O6:Own opE W6 B (.slice Ao no Co) d.ops:=by rw[← Hov.o];exact D6.o.own
 refine Zm8 (rs:=[12]) (by kernel_rfl) (by simp) ?_;refine Yr (o:=_) rfl (fun K hK=>?_) Yq;refine Vq opE (.tmp 78) (.tmp 85) 23 (by rfl) (by rfl) (by rfl) (by rfl) O6 (by rfl) H6.o (by rw[Hno.o];show no+1≤_;omega) (by show 232≤1000;omega) D6.o.big ?_;intro A7 n7 c7 w7 hg7;have G7:=Y4 (show Grew opE W6 B d.ov (d.ops++[Iw (k:Int) (d.t:Int)]) A7 n7 c7 w7 by rw[Hov.o];exact hg7);have nb:¬ d.ov.ownBlock=some b:=fun e=>(H.o.nov e).1 rfl
 have hlb:=D6.o.cells.lt;have c3:w7.cell? ⟨b,3,none⟩=some (.slice Ao no Co):=(G7.o.chg.cell (p:=⟨b,3,none⟩) hlb nb).trans c3';have c5:w7.cell? ⟨b,5,none⟩=some (.int .i64 (d.t:Int)):=(G7.o.chg.cell (p:=⟨b,5,none⟩) hlb nb).trans c5';have fz:w7.frozen? ⟨b,3,none⟩=false:=(G7.o.chg.frozen (p:=⟨b,3,none⟩) hlb nb).trans (D6.o.cells.fz 3);have D8:=Y4 (D6.o.addOp G7.o (by show d.ops.length<4096;rw[Hno.o];omega) rfl rfl ⟨by show(0:Int)≤(k:Int);omega,by show(k:Int)<64;omega,by show(-1:Int)≤-1;omega,by show(-1:Int)≤2000000;omega,KS.nil,Zl7 _⟩);have C8:=Y4 ((C6.o.trans (G7.o.chg.mono fun _ _ e=>H.o.uo _ e)).setCell (p:=⟨b,3,none⟩) (.inl H.o.ub) (.slice A7 n7 c7));refine hK.out _ _ ⟨c3,c5,trivial⟩ (fun hHeld=>?_);clear hHeld hK K hg7 c3' c5' O6;refine Zlh (by kernel_rfl) ?_ _;simp only[Jw,Z6,Z7];try simp only[Act.put,Zv,Zu,Zt]
 go_wp2_with fail;go_ret;refine⟨true,_,_,rfl,D8.o,?_,C8.o,?_,rfl,Yn _,?_⟩
 ·have:=Zox Hl.o Hk.o Hs.o (H.o.mach _ (Zy Hk.o)).2 x;rw[Hno.o]at this;exact this
 ·show(d.ms.set k _).length=_;rw[Zf]
 intro q hq;rcases hq with hq|hq
 ·exact .inl hq
 rcases G7.o.at_ with e|e
 ·exact .inl (H.o.uo _ (e▸hq))
 rw[hq]at e;exact .inr (by rw[Zm6 e];exact C6.o.size)
end
end Go.Proofs.YtnbclgbicnpmnaaGreat
