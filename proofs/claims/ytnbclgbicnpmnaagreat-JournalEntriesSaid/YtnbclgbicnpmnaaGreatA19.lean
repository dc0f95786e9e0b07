/- Lemmas of this claim: Tf. Conditions: as named. -/
import Derived.Test.YtnbclgbicnpmnaaGreatA05
import Derived.Test.YtnbclgbicnpmnaaGreatA16
namespace Go.Proofs.YtnbclgbicnpmnaaGreat
open Go.RowKit Go.Sort
open List renaming getElem?_eq_getElem → Zz, mem_of_getElem? → Zy, getElem?_cons_zero → Zx, getElem?_cons_succ → Zw, length_append → Zs, length_drop → Z8
open Lib renaming hid → Yw
open Go renaming wpQuiet_step → Yv, wpQuiet_nil → Yu, bodyPost_ret → Yt
open Nat renaming le_refl → Yo
open Ext renaming refl → Yl
set_option maxHeartbeats 40000000
set_option maxRecDepth 100000
set_option linter.all false
def Zy7 (w:World) (e:Ending) (w':World):Prop:=∃ (op ttl:Int) (v:Value) (l:List ByteArray) (er:Int),e=.returned (.tuple #[.agg #[.int .i64 op,.int .i64 ttl,v],.int .i64 er])∧RdE Wr w' (fun _=>True) v l∧Ext w w'
theorem Ol (o:Int):∃ t:ByteArray,t.size≤8∧∀ w:World,Calls Tryz.prog 128 #[.int .i64 o] w fun e w'=>e=.returned (.string t)∧w=w':=by
 by_cases h1:o=1
 ·subst h1
  refine ⟨⟨#[72,79,76,68]⟩,by decide,fun w=>?_⟩
  go_enter Tryz.func128,Tryz.ntmps128
  go_wp2_with fail
  go_ret
  exact ⟨rfl,rfl⟩
 have e1:(o == 1)=false:=by simp [h1]
 by_cases h2:o=2
 ·subst h2
  refine ⟨⟨#[67,79,78,70,73,82,77]⟩,by decide,fun w=>?_⟩
  go_enter Tryz.func128,Tryz.ntmps128
  go_wp2_with fail
  go_ret
  exact ⟨rfl,rfl⟩
 have e2:(o == 2)=false:=by simp [h2]
 by_cases h3:o=3
 ·subst h3
  refine ⟨⟨#[82,69,78,69,87]⟩,by decide,fun w=>?_⟩
  go_enter Tryz.func128,Tryz.ntmps128
  go_wp2_with fail
  go_ret
  exact ⟨rfl,rfl⟩
 have e3:(o == 3)=false:=by simp [h3]
 by_cases h4:o=4
 ·subst h4
  refine ⟨⟨#[67,65,78,67,69,76]⟩,by decide,fun w=>?_⟩
  go_enter Tryz.func128,Tryz.ntmps128
  go_wp2_with fail
  go_ret
  exact ⟨rfl,rfl⟩
 have e4:(o == 4)=false:=by simp [h4]
 by_cases h5:o=5
 ·subst h5
  refine ⟨⟨#[82,69,76,69,65,83,69]⟩,by decide,fun w=>?_⟩
  go_enter Tryz.func128,Tryz.ntmps128
  go_wp2_with fail
  go_ret
  exact ⟨rfl,rfl⟩
 have e5:(o == 5)=false:=by simp [h5]
 by_cases h6:o=6
 ·subst h6
  refine ⟨⟨#[80,85,82,71,69]⟩,by decide,fun w=>?_⟩
  go_enter Tryz.func128,Tryz.ntmps128
  go_wp2_with fail
  go_ret
  exact ⟨rfl,rfl⟩
 have e6:(o == 6)=false:=by simp [h6]
 by_cases h7:o=7
 ·subst h7
  refine ⟨⟨#[81,85,69,82,89]⟩,by decide,fun w=>?_⟩
  go_enter Tryz.func128,Tryz.ntmps128
  go_wp2_with fail
  go_ret
  exact ⟨rfl,rfl⟩
 have e7:(o == 7)=false:=by simp [h7]
 refine ⟨⟨#[]⟩,by decide,fun w=>?_⟩
 go_enter Tryz.func128,Tryz.ntmps128
 go_wp2_with fail
 go_ret
 exact ⟨rfl,rfl⟩
theorem RdE.far' {w:World} {v:Value} {l:List ByteArray} {c j:Nat} {u:Value} {B:Nat} (h:RdE Wr w (fun k=>B < k) v l) (hS:c≤B):RdE Wr (w.setCell ⟨c,j,none⟩ u) (fun k=>B < k) v l:=h.far (by omega) u
theorem parse_any (s:ByteArray) (w:World):Calls Tryz.prog 170 #[.string s] w (Zy7 w):=by
 obtain ⟨n,hn⟩:∃ n,s.size=n:=⟨_,rfl⟩
 have hb0:=Xs.new w #[.int .i64 0,.int .i64 0,.slice none 0 0] 168
 have hx0:=(Yl w).alloc (.cells #[.int .i64 0,.int .i64 0,.slice none 0 0] 168)
 obtain ⟨b2,hb2⟩:∃ b,w.heap.size=b:=⟨_,rfl⟩
 rw [hb2] at hb0
 have Hb2:=Yw (show w.heap.size≤b2 by omega)
 by_cases h4096:4096 < n
 ·have d1:decide ((4096:Int) < (n:Int))=true:=Yf (by omega)
  have d2:4096 < n:=h4096
  have Hx0:=Yw hx0
  clear hb0 hx0
  go_enter Tryz.func170,Tryz.ntmps170
  go_wp2_with fail
  refine Yt (v:=.tuple #[.agg #[.int .i64 0,.int .i64 0,.slice none 0 0],.int .i64 7]) (by simp [results,Tryz.results170,go_sem, *]) rfl ⟨0,0,.slice none 0 0,[],7,rfl,Rd.nil _ _ _,?_⟩
  (repeat refine Ya ?_ (by first|exact Hb2.out|exact Hbb.out|(simp only;omega)) _)
  exact Hx0.out
 have d1:decide ((4096:Int) < (n:Int))=false:=Yg (by omega)
 go_enter Tryz.func170,Tryz.ntmps170
 go_wp2_with fail
 obtain ⟨W0,hW0⟩:∃ W,w.alloc (.cells #[.int .i64 0,.int .i64 0,.slice none 0 0] 168)=W:=⟨_,rfl⟩
 rw [hW0] at hb0 hx0
 rw [hW0]
 have hw0:b2 < W0.heap.size:=hb0.lt
 clear hW0
 refine (Zvm s (by omega) _).mono ?_
 rintro e w1 ⟨wv,l,rfl,hrd,hl1,hl2,hmem,hx1⟩
 have hb1:=hb0.ext hx1
 have hx01:=hx0.trans hx1
 have hs1:=hx1.size
 have hb3:=Xs.new w1 #[.int .i64 0,.int .i64 0,.slice none 0 0] 168
 have hb4:=hb1.ext ((Yl w1).alloc (.cells #[.int .i64 0,.int .i64 0,.slice none 0 0] 168))
 have hx2:=hx01.alloc (.cells #[.int .i64 0,.int .i64 0,.slice none 0 0] 168)
 have hr2:RdE Wr (w1.alloc (.cells #[.int .i64 0,.int .i64 0,.slice none 0 0] 168)) (fun k=>k < w1.heap.size) wv l:=RdE.ext (Rd.mono hrd fun _ _ h=>h) ((Yl w1).alloc _)
 obtain ⟨rb,hrb⟩:∃ b,w1.heap.size=b:=⟨_,rfl⟩
 rw [hrb] at hb3 hr2
 have Hbb:=Yw (show w.heap.size≤rb by omega)
 have Hne:=Yw (show b2≠rb by omega)
 have Hlt:=Yw (show b2 < rb by omega)
 go_wp2_with fail
 obtain ⟨W1,hW1⟩:∃ W,w1.alloc (.cells #[.int .i64 0,.int .i64 0,.slice none 0 0] 168)=W:=⟨_,rfl⟩
 rw [hW1] at hb3 hb4 hx2 hr2
 rw [hW1]
 obtain ⟨A,C,rfl,hlC,hC⟩:=hr2.shape
 obtain ⟨m,hm⟩:∃ m,l.length=m:=⟨_,rfl⟩
 rw [hm] at hl1 hl2 hlC hr2
 have Hm:=Yw hm
 have Hmem:=Yw hmem
 have Q0:=Yw (And.intro hb4 (And.intro hb3 (And.intro hr2 hx2)))
 rw [hm]
 clear hW1 hb0 hx0 hw0 hrd hmem hx1 hb1 hx01 hs1 hb3 hb4 hx2 hr2 hm hb2 hrb
 go_loopw [6] (fun o wr=>∃ (i:Nat) (op:Int),1≤i∧i≤8∧o=.int .i64 (i:Int)∧Xs wr b2 [.int .i64 0,.int .i64 0,.slice none 0 0]∧Xs wr rb [.int .i64 op,.int .i64 0,.slice none 0 0]∧RdE Wr wr (fun k=>k < rb) (.slice A m C) l∧Ext w wr) (fun o _=>8 - (intOf o).toNat)
 case atStart=>exact ⟨1,0,by omega,by omega,rfl,Q0.out.1,Q0.out.2.1,Q0.out.2.2.1,Q0.out.2.2.2⟩
 obtain ⟨i,op,hi1,hi8,rfl,hb2,hbr,hrd,hx⟩:=hrel
 obtain ⟨y,hy⟩:∃ x,l[0]?=some x:=⟨l[0]'(by rw [Hm.out];omega),Zz _⟩
 obtain ⟨g,oo,c,hv,_,_,hgr,hgl,cy⟩:=strs_get hrd hy
 have hys:=Hmem.out y (Zy hy)
 rw [Hm.out] at hv
 simp only [Ye] at hv
 obtain ⟨rfl,-,rfl⟩:=hv
 rw [Nat.add_zero] at cy
 have HB2:=Yw hb2
 have HBR:=Yw hbr
 have HRD:=Yw hrd
 have Hx:=Yw hx
 have Hy:=Yw hy
 unfold maxLen at hC
 have mp:(0:Int) < (m:Int):=by omega
 have mq:0 < m:=by omega
 clear hb2 hrd hx hy
 by_cases hlt:i≤7
 ·have e1:decide ((i:Int)≤7)=true:=Yf (by omega)
  clear hbr
  go_wp2_with fail
  obtain ⟨t,ht,A1⟩:=Ol (i:Int)
  have m1:=lat cy
  obtain ⟨q,hq⟩:∃ q,(y.toList == t.toList)=q:=⟨_,rfl⟩
  refine Y0 (by kernel_rfl) (by kernel_rfl) ?_
  repeat ((with_reducible refine Yv ?_);intro K hK;go_simp;first|((with_reducible refine hK _ ?_);clear hK K)|(apply Exists.intro;refine ⟨fun _=>?_,hK _ ?_⟩;(go_at_call 128;exact Xv (A1 _));clear hK K))
  (with_reducible refine Yu ?_)
  intro w5 hx5
  skip
  have Hx5:=Yw hx5
  have hbr:=HBR.out.ext Hx5.out
  have c0:=hbr.at_ 0 (by simp)
  have f0:=hbr.fz
  simp only [Zx] at c0
  clear hx5 hbr
  cases q
  ·go_wp2_with fail
   go_roundw
   case rel=>exact ⟨i+1,op,by omega,by omega,by go_num,HB2.out.ext Hx5.out,HBR.out.ext Hx5.out,HRD.out.ext Hx5.out,Hx.out.trans Hx5.out⟩
   case measure=>(simp [intOf];omega)
  go_wp2_with fail
  go_roundw
  case rel=>exact ⟨i+1,(i:Int),by omega,by omega,by go_num,(HB2.out.ext Hx5.out).far Hne.out _,(HBR.out.ext Hx5.out).set (j:=0) (by simp) _,(HRD.out.ext Hx5.out).far (by omega) _,Ya (Hx.out.trans Hx5.out) Hbb.out _⟩
  case measure=>(simp [intOf];omega)
 have e1:decide ((i:Int)≤7)=false:=Yg (by omega)
 by_cases h0:op=0
 ·subst h0
  have c20:=(HB2.out).at_ 0 (by simp)
  have c21:=(HB2.out).at_ 1 (by simp)
  have c22:=(HB2.out).at_ 2 (by simp)
  have f2:=(HB2.out).fz
  have c0:=(hbr).at_ 0 (by simp)
  have c1:=(hbr).at_ 1 (by simp)
  have c2:=(hbr).at_ 2 (by simp)
  have f0:=(hbr).fz
  have l2:=(HB2.out).lt
  have l0:=(hbr).lt
  simp only [Zx,Zw] at c20 c21 c22 c0 c1 c2
  go_wp2_with fail
  refine Yt (v:=.tuple #[.agg #[.int .i64 0,.int .i64 0,.slice none 0 0],.int .i64 4]) (by simp [results,Tryz.results170,go_sem, *]) rfl ⟨0,0,.slice none 0 0,[],4,rfl,Rd.nil _ _ _,?_⟩
  (repeat refine Ya ?_ (by first|exact Hb2.out|exact Hbb.out|(simp only;omega)) _)
  exact Hx.out
 have z1:(op == 0)=false:=by simp [h0]
 have z2:¬ op=0:=h0
 have c1:(1:Int)≤(m:Int):=by omega
 have c3:(m:Int)≤(C:Int):=by omega
 have c4:(1:Int)≤(C:Int):=by omega
 by_cases hc1:C=1
 ·subst hc1
  obtain rfl:m=1:=by omega
  have c20:=(HB2.out).at_ 0 (by simp)
  have c21:=(HB2.out).at_ 1 (by simp)
  have c22:=(HB2.out).at_ 2 (by simp)
  have f2:=(HB2.out).fz
  have c0:=(hbr).at_ 0 (by simp)
  have c1:=(hbr).at_ 1 (by simp)
  have c2:=(hbr).at_ 2 (by simp)
  have f0:=(hbr).fz
  have l2:=(HB2.out).lt
  have l0:=(hbr).lt
  simp only [Zx,Zw] at c20 c21 c22 c0 c1 c2
  go_wp2_with fail
  refine (Vu _ _).mono ?_
  rintro e w5 ⟨tb,rfl,hx5⟩
  have TROW:=Yw (show RdE Wr w5 (fun k=>k < rb) (.slice (some ⟨g,oo,none⟩) 0 0) (l.drop 1) from RdE.drop (HRD.out.ext hx5) rfl (by rw [Hm.out];omega) (by rw [Hm.out]) (fun h=>by omega) (by omega) (by unfold maxLen;omega))
  have TL:=Yw (show (l.drop 1).length=0 by rw [Z8,Hm.out])
  have TM:=Yw (show ∀ x∈l.drop 1,x.size≤4096 from fun x hx=>Hmem.out x (List.mem_of_mem_drop hx))
  have T2:=Yw (HB2.out.ext hx5)
  have TR:=Yw (HBR.out.ext hx5)
  have TX:=Yw (Hx.out.trans hx5)
  obtain ⟨l1,hl1'⟩:∃ x,l.drop 1=x:=⟨_,rfl⟩
  rw [hl1'] at TROW TL TM
  obtain ⟨k,hk0⟩:∃ k:Nat,k=0:=⟨_,rfl⟩
  have hsl:Value.slice (some ⟨g,oo,none⟩) 0 0=.slice (some ⟨g,oo,none⟩) k k:=by rw [hk0]
  rw [hsl] at TROW
  rw [show (l1.length=0)=(l1.length=k) by rw [hk0]] at TL
  have hk4:k≤4097:=by omega
  rw [hsl]
  clear hx5 hl1' cy hgl hgr hys hbr c20 c21 c22 f2 c0 c1 c2 f0 l2 l0 HB2 HBR HRD Hx Hmem Hm Hy hlC hC hl1 hl2 c3 c4 mp mq hsl
  cases tb with
  | false =>
   clear hk0
   go_wp2_with fail
   go_loopw [61] (fun o wr=>∃ (j:Nat) (nv:Value) (ns:List ByteArray),j≤k∧o=.int .i64 (j:Int)∧Xs wr b2 [.int .i64 0,.int .i64 0,.slice none 0 0]∧Xs wr rb [.int .i64 op,.int .i64 0,nv]∧Own Wr wr (rb+1) nv ns∧ns.length=j∧RdE Wr wr (fun k=>k < rb) (.slice (some ⟨g,oo,none⟩) k k) l1∧Ext w wr) (fun o _=>k - (intOf o).toNat)
   case atStart=>exact ⟨0,_,[],by omega,rfl,T2.out,TR.out,Own.nil _ _ _,rfl,TROW.out,TX.out⟩
   obtain ⟨j,nv,ns,hj,rfl,hb2,hbr,hown,hnl,hrow,hx⟩:=hrel
   obtain ⟨A3,C3,rfl,hC3,hC4⟩:=hown.shape
   try rw [hnl] at hown
   try rw [hnl] at hbr
   try rw [hnl]
   have U2:=Yw hb2
   have UR:=Yw hbr
   have UO:=Yw hown
   have UL:=Yw hnl
   have UROW:=Yw hrow
   have UX:=Yw hx
   rw [hnl] at hC3
   unfold maxLen at hC4
   by_cases hjk:j < k
   ·have hd_j:decide ((j:Int) < (k:Int))=true:=Yf (by omega)
    have i0_j:(0:Int)≤(j:Int):=by omega
    have i1_j:(j:Int) < (k:Int):=by omega
    obtain ⟨y2,hy2⟩:∃ x,(l1)[j]?=some x:=⟨(l1)[j]'(by rw [TL.out];exact hjk),Zz _⟩
    obtain ⟨g2,o2,c2',hv2,_,_,_,hgl2,cy2⟩:=strs_get hrow hy2
    have hys2:=TM.out y2 (Zy hy2)
    rw [TL.out] at hv2
    simp only [Ye,Yd,Addr.mk.injEq,true_and,and_true] at hv2
    clear hb2 hbr hown hnl hrow hx hy2
    (obtain ⟨⟨rfl,rfl⟩,rfl⟩:=hv2)
    go_wp2_with fail
    refine (Jb y2 (by omega) _).mono ?_
    rintro e w6 ⟨t6,ok6,rfl,ht6,hx6⟩
    have V2:=Yw (U2.out.ext hx6)
    have VR:=Yw (UR.out.ext hx6)
    have VX:=Yw (UX.out.trans hx6)
    cases ok6 with
    | false =>
     have c20:=(V2.out).at_ 0 (by simp)
     have c21:=(V2.out).at_ 1 (by simp)
     have c22:=(V2.out).at_ 2 (by simp)
     have f2:=(V2.out).fz
     have c0:=(VR.out).at_ 0 (by simp)
     have c1:=(VR.out).at_ 1 (by simp)
     have c2:=(VR.out).at_ 2 (by simp)
     have f0:=(VR.out).fz
     have l2:=(V2.out).lt
     have l0:=(VR.out).lt
     simp only [Zx,Zw] at c20 c21 c22 c0 c1 c2
     go_wp2_with fail
     refine Yt (v:=.tuple #[.agg #[.int .i64 0,.int .i64 0,.slice none 0 0],.int .i64 4]) (by simp [results,Tryz.results170,go_sem, *]) rfl ⟨0,0,.slice none 0 0,[],4,rfl,Rd.nil _ _ _,?_⟩
     (repeat refine Ya ?_ (by first|exact Hb2.out|exact Hbb.out|(simp only;omega)) _)
     exact VX.out
    | true =>
     have VO:=Yw (UO.out.ext hx6)
     have VROW:=Yw (UROW.out.ext hx6)
     clear hx6
     have c20:=(V2.out).at_ 0 (by simp)
     have c21:=(V2.out).at_ 1 (by simp)
     have c22:=(V2.out).at_ 2 (by simp)
     have f2:=(V2.out).fz
     have c0:=(VR.out).at_ 0 (by simp)
     have c1:=(VR.out).at_ 1 (by simp)
     have c2:=(VR.out).at_ 2 (by simp)
     have f0:=(VR.out).fz
     have l2:=(V2.out).lt
     have l0:=(VR.out).lt
     simp only [Zx,Zw] at c20 c21 c22 c0 c1 c2
     go_wp2_with (at_builtin;refine Xx Wr _ _ _ rfl rfl rfl rfl (VO.out.ext ((Yl _).alloc _)) rfl (K3 w6 _ _ _ rfl) (by rw [UL.out];show _+1≤_;omega) (by show 16≤1000;omega) (by simp;omega) ?_;intro A5 n5 c5 w7 hg;have hnr:¬ (Value.slice A3 j C3).ownBlock=some rb:=(by intro he;have:=(VO.out.lt rb he).1;omega);have hn2:¬ (Value.slice A3 j C3).ownBlock=some b2:=(by intro he;have:=(VO.out.lt b2 he).1;have:=Hlt.out;omega);have X7:=Yw (hg.ext w (VX.out.alloc _) (by have:=Hbb.out;omega));have S2:=Yw ((V2.out.ext ((Yl _).alloc _)).chg hg.chg hn2);have SR:=Yw ((VR.out.ext ((Yl _).alloc _)).chg hg.chg hnr);have SROW:=Yw (show RdE Wr w7 (fun k=>k < rb) _ _ from Rd.chg (VROW.out.ext ((Yl _).alloc _)) hg.chg (fun k hk he=>by have:=(VO.out.lt k he).1;omega));have hf7:=SR.out.fz;have c7:w7.cell? ⟨rb,2,none⟩=some (.slice A3 j C3):=SR.out.at_ 2 (by simp);have SO:=Yw hg.own;have SN:=Yw hg.len;clear hg hnr hn2)
     have SA:=Yw (show (Value.slice A5 n5 c5).ownBlock≠some rb by intro he;have:=(SO.out.lt rb he).1;omega)
     go_roundw
     case rel=>exact ⟨j+1,_,_,by omega,by go_num,S2.out.far Hne.out _,SR.out.set (j:=2) (by simp) _,SO.out.far SA.out _,by rw [Zs,UL.out];rfl,SROW.out.far (by omega) _,Ya X7.out Hbb.out _⟩
     case measure=>(simp [intOf];omega)
   have hd_j:decide ((j:Int) < (k:Int))=false:=Yg (by omega)
   have c20:=(hb2).at_ 0 (by simp)
   have c21:=(hb2).at_ 1 (by simp)
   have c22:=(hb2).at_ 2 (by simp)
   have f2:=(hb2).fz
   have c0:=(hbr).at_ 0 (by simp)
   have c1:=(hbr).at_ 1 (by simp)
   have c2:=(hbr).at_ 2 (by simp)
   have f0:=(hbr).fz
   have l2:=(hb2).lt
   have l0:=(hbr).lt
   simp only [Zx,Zw] at c20 c21 c22 c0 c1 c2
   have UN:=Yw (show RdE Wr wr (fun k=>b2 < k) (.slice A3 j C3) ns by have h9:=hown.rd;exact Rd.mono h9 fun k hk _=>by have:=Hlt.out;omega)
   clear hb2 hbr hown hnl hrow hx
   cases q7:(op == 7)
   ·go_wp2_with fail
    refine (Vu _ _).mono ?_
    rintro e w8 ⟨tb8,rfl,hx8⟩
    have V2:=Yw (U2.out.ext hx8)
    have VR:=Yw (UR.out.ext hx8)
    have W8:=Yw (UX.out.trans hx8)
    have UN8:=Yw (UN.out.ext hx8)
    clear c20 c21 c22 c0 c1 c2 f2 f0 l2 l0 hx8
    have c20:=(V2.out).at_ 0 (by simp)
    have c21:=(V2.out).at_ 1 (by simp)
    have c22:=(V2.out).at_ 2 (by simp)
    have f2:=(V2.out).fz
    have c0:=(VR.out).at_ 0 (by simp)
    have c1:=(VR.out).at_ 1 (by simp)
    have c2:=(VR.out).at_ 2 (by simp)
    have f0:=(VR.out).fz
    have l2:=(V2.out).lt
    have l0:=(VR.out).lt
    simp only [Zx,Zw] at c20 c21 c22 c0 c1 c2
    cases tb8
    ·go_wp2_with fail
     refine Yt (v:=.tuple #[.agg #[.int .i64 _,.int .i64 0,.slice A3 j C3],.int .i64 0]) (by simp [results,Tryz.results170,go_sem, *];rfl) rfl ⟨_,0,.slice A3 j C3,ns,0,rfl,?_,?_⟩
     ·have h9:=UN8.out
      refine Rd.mono (S:=fun k=>b2 < k) ?_ fun _ _ _=>trivial
      (repeat refine RdE.far' ?_ (Yo _))
      exact h9
     (repeat refine Ya ?_ Hb2.out _)
     exact W8.out
    go_wp2_with fail
    refine Yt (v:=.tuple #[.agg #[.int .i64 0,.int .i64 0,.slice none 0 0],.int .i64 3]) (by simp [results,Tryz.results170,go_sem, *]) rfl ⟨0,0,.slice none 0 0,[],3,rfl,Rd.nil _ _ _,?_⟩
    (repeat refine Ya ?_ (by first|exact Hb2.out|exact Hbb.out|(simp only;omega)) _)
    exact W8.out
   obtain rfl:op=7:=by simpa using q7
   by_cases qj:j=1
   ·have qj2:(!((j:Int) == 1))=false:=by simp;omega
    have qj3:((j:Int) != 1)=false:=qj2
    have qj4:(!(j == 1))=false:=by simp;omega
    have qj5:(j != 1)=false:=qj4
    go_wp2_with fail
    refine (Vu _ _).mono ?_
    rintro e w8 ⟨tb8,rfl,hx8⟩
    have V2:=Yw (U2.out.ext hx8)
    have VR:=Yw (UR.out.ext hx8)
    have W8:=Yw (UX.out.trans hx8)
    have UN8:=Yw (UN.out.ext hx8)
    clear c20 c21 c22 c0 c1 c2 f2 f0 l2 l0 hx8
    have c20:=(V2.out).at_ 0 (by simp)
    have c21:=(V2.out).at_ 1 (by simp)
    have c22:=(V2.out).at_ 2 (by simp)
    have f2:=(V2.out).fz
    have c0:=(VR.out).at_ 0 (by simp)
    have c1:=(VR.out).at_ 1 (by simp)
    have c2:=(VR.out).at_ 2 (by simp)
    have f0:=(VR.out).fz
    have l2:=(V2.out).lt
    have l0:=(VR.out).lt
    simp only [Zx,Zw] at c20 c21 c22 c0 c1 c2
    cases tb8
    ·go_wp2_with fail
     refine Yt (v:=.tuple #[.agg #[.int .i64 _,.int .i64 0,.slice A3 j C3],.int .i64 0]) (by simp [results,Tryz.results170,go_sem, *];rfl) rfl ⟨_,0,.slice A3 j C3,ns,0,rfl,?_,?_⟩
     ·have h9:=UN8.out
      refine Rd.mono (S:=fun k=>b2 < k) ?_ fun _ _ _=>trivial
      (repeat refine RdE.far' ?_ (Yo _))
      exact h9
     (repeat refine Ya ?_ Hb2.out _)
     exact W8.out
    go_wp2_with fail
    refine Yt (v:=.tuple #[.agg #[.int .i64 0,.int .i64 0,.slice none 0 0],.int .i64 3]) (by simp [results,Tryz.results170,go_sem, *]) rfl ⟨0,0,.slice none 0 0,[],3,rfl,Rd.nil _ _ _,?_⟩
    (repeat refine Ya ?_ (by first|exact Hb2.out|exact Hbb.out|(simp only;omega)) _)
    exact W8.out
   have qj2:(!((j:Int) == 1))=true:=by simp;omega
   have qj3:((j:Int) != 1)=true:=qj2
   have qj4:(!(j == 1))=true:=by simp;omega
   have qj5:(j != 1)=true:=qj4
   have qj6:¬ (j:Int)=1:=by omega
   go_wp2_with fail
   refine Yt (v:=.tuple #[.agg #[.int .i64 0,.int .i64 0,.slice none 0 0],.int .i64 4]) (by simp [results,Tryz.results170,go_sem, *]) rfl ⟨0,0,.slice none 0 0,[],4,rfl,Rd.nil _ _ _,?_⟩
   (repeat refine Ya ?_ (by first|exact Hb2.out|exact Hbb.out|(simp only;omega)) _)
   exact UX.out
  | true =>
   have kz:((k:Int) == 0)=true:=by simp;omega
   have kz2:(k == 0)=true:=by simp;omega
   have c20:=(T2.out).at_ 0 (by simp)
   have c21:=(T2.out).at_ 1 (by simp)
   have c22:=(T2.out).at_ 2 (by simp)
   have f2:=(T2.out).fz
   have c0:=(TR.out).at_ 0 (by simp)
   have c1:=(TR.out).at_ 1 (by simp)
   have c2:=(TR.out).at_ 2 (by simp)
   have f0:=(TR.out).fz
   have l2:=(T2.out).lt
   have l0:=(TR.out).lt
   simp only [Zx,Zw] at c20 c21 c22 c0 c1 c2
   go_wp2_with fail
   refine Yt (v:=.tuple #[.agg #[.int .i64 0,.int .i64 0,.slice none 0 0],.int .i64 4]) (by simp [results,Tryz.results170,go_sem, *]) rfl ⟨0,0,.slice none 0 0,[],4,rfl,Rd.nil _ _ _,?_⟩
   (repeat refine Ya ?_ (by first|exact Hb2.out|exact Hbb.out|(simp only;omega)) _)
   exact TX.out
 have c20:=(HB2.out).at_ 0 (by simp)
 have c21:=(HB2.out).at_ 1 (by simp)
 have c22:=(HB2.out).at_ 2 (by simp)
 have f2:=(HB2.out).fz
 have c0:=(hbr).at_ 0 (by simp)
 have c1:=(hbr).at_ 1 (by simp)
 have c2:=(hbr).at_ 2 (by simp)
 have f0:=(hbr).fz
 have l2:=(HB2.out).lt
 have l0:=(hbr).lt
 simp only [Zx,Zw] at c20 c21 c22 c0 c1 c2
 have k1:¬ 1=C:=fun h=>hc1 h.symm
 go_wp2_with fail
 refine (Vu _ _).mono ?_
 rintro e w5 ⟨tb,rfl,hx5⟩
 obtain ⟨k,hk⟩:∃ k,m - 1=k:=⟨_,rfl⟩
 obtain ⟨C1,hC1⟩:∃ k,C - 1=k:=⟨_,rfl⟩
 obtain ⟨o1,ho1⟩:∃ k,oo+1=k:=⟨_,rfl⟩
 have TROW:=Yw (show RdE Wr w5 (fun k=>k < rb) (.slice (some ⟨g,o1,none⟩) k C1) (l.drop 1) from RdE.drop (HRD.out.ext hx5) rfl (by rw [Hm.out];omega) (by rw [Hm.out];omega) (fun _=>by rw [ho1]) (by omega) (by unfold maxLen;omega))
 have TL:=Yw (show (l.drop 1).length=k by rw [Z8,Hm.out];exact hk)
 have TM:=Yw (show ∀ x∈l.drop 1,x.size≤4096 from fun x hx=>Hmem.out x (List.mem_of_mem_drop hx))
 have T2:=Yw (HB2.out.ext hx5)
 have TR:=Yw (HBR.out.ext hx5)
 have TX:=Yw (Hx.out.trans hx5)
 obtain ⟨l1,hl1'⟩:∃ x,l.drop 1=x:=⟨_,rfl⟩
 rw [hl1'] at TROW TL TM
 rw [hk,hC1,ho1]
 have hk4:k≤4097:=by omega
 clear hx5 hk hC1 ho1 hl1' cy hgl hgr hys hbr c20 c21 c22 f2 c0 c1 c2 f0 l2 l0 HB2 HBR HRD Hx Hmem Hm Hy hlC hC hl1 hl2 k1 c3 c4 mp mq hc1
 cases tb with
 | false =>
  go_wp2_with fail
  go_loopw [61] (fun o wr=>∃ (j:Nat) (nv:Value) (ns:List ByteArray),j≤k∧o=.int .i64 (j:Int)∧Xs wr b2 [.int .i64 0,.int .i64 0,.slice none 0 0]∧Xs wr rb [.int .i64 op,.int .i64 0,nv]∧Own Wr wr (rb+1) nv ns∧ns.length=j∧RdE Wr wr (fun k=>k < rb) (.slice (some ⟨g,o1,none⟩) k C1) l1∧Ext w wr) (fun o _=>k - (intOf o).toNat)
  case atStart=>exact ⟨0,_,[],by omega,rfl,T2.out,TR.out,Own.nil _ _ _,rfl,TROW.out,TX.out⟩
  obtain ⟨j,nv,ns,hj,rfl,hb2,hbr,hown,hnl,hrow,hx⟩:=hrel
  obtain ⟨A3,C3,rfl,hC3,hC4⟩:=hown.shape
  try rw [hnl] at hown
  try rw [hnl] at hbr
  try rw [hnl]
  have U2:=Yw hb2
  have UR:=Yw hbr
  have UO:=Yw hown
  have UL:=Yw hnl
  have UROW:=Yw hrow
  have UX:=Yw hx
  rw [hnl] at hC3
  unfold maxLen at hC4
  by_cases hjk:j < k
  ·have hd_j:decide ((j:Int) < (k:Int))=true:=Yf (by omega)
   have i0_j:(0:Int)≤(j:Int):=by omega
   have i1_j:(j:Int) < (k:Int):=by omega
   obtain ⟨y2,hy2⟩:∃ x,(l1)[j]?=some x:=⟨(l1)[j]'(by rw [TL.out];exact hjk),Zz _⟩
   obtain ⟨g2,o2,c2',hv2,_,_,_,hgl2,cy2⟩:=strs_get hrow hy2
   have hys2:=TM.out y2 (Zy hy2)
   rw [TL.out] at hv2
   simp only [Ye,Yd,Addr.mk.injEq,true_and,and_true] at hv2
   clear hb2 hbr hown hnl hrow hx hy2
   (obtain ⟨⟨rfl,rfl⟩,rfl⟩:=hv2)
   go_wp2_with fail
   refine (Jb y2 (by omega) _).mono ?_
   rintro e w6 ⟨t6,ok6,rfl,ht6,hx6⟩
   have V2:=Yw (U2.out.ext hx6)
   have VR:=Yw (UR.out.ext hx6)
   have VX:=Yw (UX.out.trans hx6)
   cases ok6 with
   | false =>
    have c20:=(V2.out).at_ 0 (by simp)
    have c21:=(V2.out).at_ 1 (by simp)
    have c22:=(V2.out).at_ 2 (by simp)
    have f2:=(V2.out).fz
    have c0:=(VR.out).at_ 0 (by simp)
    have c1:=(VR.out).at_ 1 (by simp)
    have c2:=(VR.out).at_ 2 (by simp)
    have f0:=(VR.out).fz
    have l2:=(V2.out).lt
    have l0:=(VR.out).lt
    simp only [Zx,Zw] at c20 c21 c22 c0 c1 c2
    go_wp2_with fail
    refine Yt (v:=.tuple #[.agg #[.int .i64 0,.int .i64 0,.slice none 0 0],.int .i64 4]) (by simp [results,Tryz.results170,go_sem, *]) rfl ⟨0,0,.slice none 0 0,[],4,rfl,Rd.nil _ _ _,?_⟩
    (repeat refine Ya ?_ (by first|exact Hb2.out|exact Hbb.out|(simp only;omega)) _)
    exact VX.out
   | true =>
    have VO:=Yw (UO.out.ext hx6)
    have VROW:=Yw (UROW.out.ext hx6)
    clear hx6
    have c20:=(V2.out).at_ 0 (by simp)
    have c21:=(V2.out).at_ 1 (by simp)
    have c22:=(V2.out).at_ 2 (by simp)
    have f2:=(V2.out).fz
    have c0:=(VR.out).at_ 0 (by simp)
    have c1:=(VR.out).at_ 1 (by simp)
    have c2:=(VR.out).at_ 2 (by simp)
    have f0:=(VR.out).fz
    have l2:=(V2.out).lt
    have l0:=(VR.out).lt
    simp only [Zx,Zw] at c20 c21 c22 c0 c1 c2
    go_wp2_with (at_builtin;refine Xx Wr _ _ _ rfl rfl rfl rfl (VO.out.ext ((Yl _).alloc _)) rfl (K3 w6 _ _ _ rfl) (by rw [UL.out];show _+1≤_;omega) (by show 16≤1000;omega) (by simp;omega) ?_;intro A5 n5 c5 w7 hg;have hnr:¬ (Value.slice A3 j C3).ownBlock=some rb:=(by intro he;have:=(VO.out.lt rb he).1;omega);have hn2:¬ (Value.slice A3 j C3).ownBlock=some b2:=(by intro he;have:=(VO.out.lt b2 he).1;have:=Hlt.out;omega);have X7:=Yw (hg.ext w (VX.out.alloc _) (by have:=Hbb.out;omega));have S2:=Yw ((V2.out.ext ((Yl _).alloc _)).chg hg.chg hn2);have SR:=Yw ((VR.out.ext ((Yl _).alloc _)).chg hg.chg hnr);have SROW:=Yw (show RdE Wr w7 (fun k=>k < rb) _ _ from Rd.chg (VROW.out.ext ((Yl _).alloc _)) hg.chg (fun k hk he=>by have:=(VO.out.lt k he).1;omega));have hf7:=SR.out.fz;have c7:w7.cell? ⟨rb,2,none⟩=some (.slice A3 j C3):=SR.out.at_ 2 (by simp);have SO:=Yw hg.own;have SN:=Yw hg.len;clear hg hnr hn2)
    have SA:=Yw (show (Value.slice A5 n5 c5).ownBlock≠some rb by intro he;have:=(SO.out.lt rb he).1;omega)
    go_roundw
    case rel=>exact ⟨j+1,_,_,by omega,by go_num,S2.out.far Hne.out _,SR.out.set (j:=2) (by simp) _,SO.out.far SA.out _,by rw [Zs,UL.out];rfl,SROW.out.far (by omega) _,Ya X7.out Hbb.out _⟩
    case measure=>(simp [intOf];omega)
  have hd_j:decide ((j:Int) < (k:Int))=false:=Yg (by omega)
  have c20:=(hb2).at_ 0 (by simp)
  have c21:=(hb2).at_ 1 (by simp)
  have c22:=(hb2).at_ 2 (by simp)
  have f2:=(hb2).fz
  have c0:=(hbr).at_ 0 (by simp)
  have c1:=(hbr).at_ 1 (by simp)
  have c2:=(hbr).at_ 2 (by simp)
  have f0:=(hbr).fz
  have l2:=(hb2).lt
  have l0:=(hbr).lt
  simp only [Zx,Zw] at c20 c21 c22 c0 c1 c2
  have UN:=Yw (show RdE Wr wr (fun k=>b2 < k) (.slice A3 j C3) ns by have h9:=hown.rd;exact Rd.mono h9 fun k hk _=>by have:=Hlt.out;omega)
  clear hb2 hbr hown hnl hrow hx
  cases q7:(op == 7)
  ·go_wp2_with fail
   refine (Vu _ _).mono ?_
   rintro e w8 ⟨tb8,rfl,hx8⟩
   have V2:=Yw (U2.out.ext hx8)
   have VR:=Yw (UR.out.ext hx8)
   have W8:=Yw (UX.out.trans hx8)
   have UN8:=Yw (UN.out.ext hx8)
   clear c20 c21 c22 c0 c1 c2 f2 f0 l2 l0 hx8
   have c20:=(V2.out).at_ 0 (by simp)
   have c21:=(V2.out).at_ 1 (by simp)
   have c22:=(V2.out).at_ 2 (by simp)
   have f2:=(V2.out).fz
   have c0:=(VR.out).at_ 0 (by simp)
   have c1:=(VR.out).at_ 1 (by simp)
   have c2:=(VR.out).at_ 2 (by simp)
   have f0:=(VR.out).fz
   have l2:=(V2.out).lt
   have l0:=(VR.out).lt
   simp only [Zx,Zw] at c20 c21 c22 c0 c1 c2
   cases tb8
   ·go_wp2_with fail
    refine Yt (v:=.tuple #[.agg #[.int .i64 _,.int .i64 0,.slice A3 j C3],.int .i64 0]) (by simp [results,Tryz.results170,go_sem, *];rfl) rfl ⟨_,0,.slice A3 j C3,ns,0,rfl,?_,?_⟩
    ·have h9:=UN8.out
     refine Rd.mono (S:=fun k=>b2 < k) ?_ fun _ _ _=>trivial
     (repeat refine RdE.far' ?_ (Yo _))
     exact h9
    (repeat refine Ya ?_ Hb2.out _)
    exact W8.out
   go_wp2_with fail
   refine Yt (v:=.tuple #[.agg #[.int .i64 0,.int .i64 0,.slice none 0 0],.int .i64 3]) (by simp [results,Tryz.results170,go_sem, *]) rfl ⟨0,0,.slice none 0 0,[],3,rfl,Rd.nil _ _ _,?_⟩
   (repeat refine Ya ?_ (by first|exact Hb2.out|exact Hbb.out|(simp only;omega)) _)
   exact W8.out
  obtain rfl:op=7:=by simpa using q7
  by_cases qj:j=1
  ·have qj2:(!((j:Int) == 1))=false:=by simp;omega
   have qj3:((j:Int) != 1)=false:=qj2
   have qj4:(!(j == 1))=false:=by simp;omega
   have qj5:(j != 1)=false:=qj4
   go_wp2_with fail
   refine (Vu _ _).mono ?_
   rintro e w8 ⟨tb8,rfl,hx8⟩
   have V2:=Yw (U2.out.ext hx8)
   have VR:=Yw (UR.out.ext hx8)
   have W8:=Yw (UX.out.trans hx8)
   have UN8:=Yw (UN.out.ext hx8)
   clear c20 c21 c22 c0 c1 c2 f2 f0 l2 l0 hx8
   have c20:=(V2.out).at_ 0 (by simp)
   have c21:=(V2.out).at_ 1 (by simp)
   have c22:=(V2.out).at_ 2 (by simp)
   have f2:=(V2.out).fz
   have c0:=(VR.out).at_ 0 (by simp)
   have c1:=(VR.out).at_ 1 (by simp)
   have c2:=(VR.out).at_ 2 (by simp)
   have f0:=(VR.out).fz
   have l2:=(V2.out).lt
   have l0:=(VR.out).lt
   simp only [Zx,Zw] at c20 c21 c22 c0 c1 c2
   cases tb8
   ·go_wp2_with fail
    refine Yt (v:=.tuple #[.agg #[.int .i64 _,.int .i64 0,.slice A3 j C3],.int .i64 0]) (by simp [results,Tryz.results170,go_sem, *];rfl) rfl ⟨_,0,.slice A3 j C3,ns,0,rfl,?_,?_⟩
    ·have h9:=UN8.out
     refine Rd.mono (S:=fun k=>b2 < k) ?_ fun _ _ _=>trivial
     (repeat refine RdE.far' ?_ (Yo _))
     exact h9
    (repeat refine Ya ?_ Hb2.out _)
    exact W8.out
   go_wp2_with fail
   refine Yt (v:=.tuple #[.agg #[.int .i64 0,.int .i64 0,.slice none 0 0],.int .i64 3]) (by simp [results,Tryz.results170,go_sem, *]) rfl ⟨0,0,.slice none 0 0,[],3,rfl,Rd.nil _ _ _,?_⟩
   (repeat refine Ya ?_ (by first|exact Hb2.out|exact Hbb.out|(simp only;omega)) _)
   exact W8.out
  have qj2:(!((j:Int) == 1))=true:=by simp;omega
  have qj3:((j:Int) != 1)=true:=qj2
  have qj4:(!(j == 1))=true:=by simp;omega
  have qj5:(j != 1)=true:=qj4
  have qj6:¬ (j:Int)=1:=by omega
  go_wp2_with fail
  refine Yt (v:=.tuple #[.agg #[.int .i64 0,.int .i64 0,.slice none 0 0],.int .i64 4]) (by simp [results,Tryz.results170,go_sem, *]) rfl ⟨0,0,.slice none 0 0,[],4,rfl,Rd.nil _ _ _,?_⟩
  (repeat refine Ya ?_ (by first|exact Hb2.out|exact Hbb.out|(simp only;omega)) _)
  exact UX.out
 | true =>
  by_cases hk0:k=0
  ·subst hk0
   have c20:=(T2.out).at_ 0 (by simp)
   have c21:=(T2.out).at_ 1 (by simp)
   have c22:=(T2.out).at_ 2 (by simp)
   have f2:=(T2.out).fz
   have c0:=(TR.out).at_ 0 (by simp)
   have c1:=(TR.out).at_ 1 (by simp)
   have c2:=(TR.out).at_ 2 (by simp)
   have f0:=(TR.out).fz
   have l2:=(T2.out).lt
   have l0:=(TR.out).lt
   simp only [Zx,Zw] at c20 c21 c22 c0 c1 c2
   go_wp2_with fail
   refine Yt (v:=.tuple #[.agg #[.int .i64 0,.int .i64 0,.slice none 0 0],.int .i64 4]) (by simp [results,Tryz.results170,go_sem, *]) rfl ⟨0,0,.slice none 0 0,[],4,rfl,Rd.nil _ _ _,?_⟩
   (repeat refine Ya ?_ (by first|exact Hb2.out|exact Hbb.out|(simp only;omega)) _)
   exact TX.out
  have kz:((k:Int) == 0)=false:=by simp;omega
  have kz2:(k == 0)=false:=by simp;omega
  have kz3:¬ (k:Int)=0:=by omega
  have kp:(0:Int) < (k:Int):=by omega
  have kq:0 < k:=by omega
  obtain ⟨y2,hy2⟩:∃ x,l1[0]?=some x:=⟨l1[0]'(by rw [TL.out];exact kq),Zz _⟩
  obtain ⟨g2,o2,c2',hv2,hkc,hcm,_,hgl2,cy2⟩:=strs_get TROW.out hy2
  have hys2:=TM.out y2 (Zy hy2)
  rw [TL.out] at hv2 hkc
  simp only [Ye,Yd,Addr.mk.injEq,true_and,and_true] at hv2
  obtain ⟨⟨rfl,rfl⟩,rfl⟩:=hv2
  rw [Nat.add_zero] at cy2
  clear hy2
  have c20:=(T2.out).at_ 0 (by simp)
  have c21:=(T2.out).at_ 1 (by simp)
  have c22:=(T2.out).at_ 2 (by simp)
  have f2:=(T2.out).fz
  have c0:=(TR.out).at_ 0 (by simp)
  have c1:=(TR.out).at_ 1 (by simp)
  have c2:=(TR.out).at_ 2 (by simp)
  have f0:=(TR.out).fz
  have l2:=(T2.out).lt
  have l0:=(TR.out).lt
  simp only [Zx,Zw] at c20 c21 c22 c0 c1 c2
  go_wp2_with fail
  refine (Ru y2 10 (by omega) _).mono ?_
  rintro e w6 ⟨z6,ok6,rfl,hx6⟩
  have V2:=Yw (T2.out.ext hx6)
  have VR:=Yw (TR.out.ext hx6)
  have VX:=Yw (TX.out.trans hx6)
  have VROW:=Yw (TROW.out.ext hx6)
  clear c20 c21 c22 c0 c1 c2 f2 f0 l2 l0 hx6 cy2
  have c20:=(V2.out).at_ 0 (by simp)
  have c21:=(V2.out).at_ 1 (by simp)
  have c22:=(V2.out).at_ 2 (by simp)
  have f2:=(V2.out).fz
  have c0:=(VR.out).at_ 0 (by simp)
  have c1:=(VR.out).at_ 1 (by simp)
  have c2:=(VR.out).at_ 2 (by simp)
  have f0:=(VR.out).fz
  have l2:=(V2.out).lt
  have l0:=(VR.out).lt
  simp only [Zx,Zw] at c20 c21 c22 c0 c1 c2
  clear l2
  cases ok6 with
  | false =>
   go_wp2_with fail
   refine Yt (v:=.tuple #[.agg #[.int .i64 0,.int .i64 0,.slice none 0 0],.int .i64 4]) (by simp [results,Tryz.results170,go_sem, *]) rfl ⟨0,0,.slice none 0 0,[],4,rfl,Rd.nil _ _ _,?_⟩
   (repeat refine Ya ?_ (by first|exact Hb2.out|exact Hbb.out|(simp only;omega)) _)
   exact VX.out
  | true =>
   unfold maxLen at hcm
   have kc1:(1:Int)≤(k:Int):=by omega
   have kc2:(1:Int)≤(C1:Int):=by omega
   have kc3:(k:Int)≤(C1:Int):=by omega
   have X2:=Yw (V2.out.far (j:=1) Hne.out (.int .i64 z6))
   have XR:=Yw (show Xs (w6.setCell ⟨rb,1,none⟩ (.int .i64 z6)) rb [.int .i64 op,.int .i64 z6,.slice none 0 0] from VR.out.set (j:=1) (by simp) (.int .i64 z6))
   have XX:=Yw (Ya (p:=⟨rb,1,none⟩) VX.out Hbb.out (.int .i64 z6))
   have XM:=Yw (show ∀ x∈l1.drop 1,x.size≤4096 from fun x hx=>TM.out x (List.mem_of_mem_drop hx))
   have XL:=Yw (show (l1.drop 1).length=k - 1 by rw [Z8,TL.out])
   by_cases hc9:C1=1
   ·subst hc9
    obtain rfl:k=1:=by omega
    have XROW:=Yw (RdE.far (c:=rb) (j:=1) (show RdE Wr w6 (fun k=>k < rb) (.slice (some ⟨g,o1,none⟩) 0 0) (l1.drop 1) from RdE.drop VROW.out rfl (by rw [TL.out];omega) (by rw [TL.out]) (fun h=>by omega) (by omega) (by unfold maxLen;omega)) (by omega) (.int .i64 z6))
    go_wp2_with fail
    go_cut [4] from 55 to 57 (fun o wx=>∃ (a2:Option Addr) (k2 c2:Nat) (l2:List ByteArray),o=.slice a2 k2 c2∧l2.length=k2∧k2≤4097∧(∀ x∈l2,x.size≤4096)∧RdE Wr wx (fun k=>k < rb) (.slice a2 k2 c2) l2∧Xs wx b2 [.int .i64 0,.int .i64 0,.slice none 0 0]∧Xs wx rb [.int .i64 op,.int .i64 z6,.slice none 0 0]∧Ext w wx)
    case first =>
     rename_i J1 K1 hJ hM
     go_region
     all_goals
      go_simp
      refine hM _ _ (hJ _ _ ?_)
      (repeat apply Exists.intro)
      exact ⟨⟨some ⟨g,o1,none⟩,0,0,l1.drop 1,rfl,XL.out,by omega,XM.out,by first|exact XROW.out.ext (Yl _).drew|exact XROW.out.ext ((Yl _).drewN _),by first|exact X2.out.ext (Yl _).drew|exact X2.out.ext ((Yl _).drewN _),by first|exact XR.out.ext (Yl _).drew|exact XR.out.ext ((Yl _).drewN _),by first|exact XX.out.drew|exact XX.out.drewN _⟩,rfl⟩
    obtain ⟨a2,k2,c2',l2,rfl,hl2,hk2,hm2,hrow2,hb22,hbr2,hxx⟩:=hcut
    clear TROW TL TM T2 TR TX XROW X2 XR XX XL XM VROW V2 VR VX
    have TROW:=Yw hrow2
    have TL:=Yw hl2
    have TM:=Yw hm2
    have T2:=Yw hb22
    have TR:=Yw hbr2
    have TX:=Yw hxx
    clear hrow2 hl2 hm2 hb22 hbr2 hxx c20 c21 c22 c0 c1 c2 f2 f0 l0
    go_wp2_with fail
    go_loopw [61] (fun o wr=>∃ (j:Nat) (nv:Value) (ns:List ByteArray),j≤k2∧o=.int .i64 (j:Int)∧Xs wr b2 [.int .i64 0,.int .i64 0,.slice none 0 0]∧Xs wr rb [.int .i64 op,.int .i64 z6,nv]∧Own Wr wr (rb+1) nv ns∧ns.length=j∧RdE Wr wr (fun k=>k < rb) (.slice a2 k2 c2') l2∧Ext w wr) (fun o _=>k2 - (intOf o).toNat)
    case atStart=>exact ⟨0,_,[],by omega,rfl,T2.out,TR.out,Own.nil _ _ _,rfl,TROW.out,TX.out⟩
    obtain ⟨j,nv,ns,hj,rfl,hb2,hbr,hown,hnl,hrow,hx⟩:=hrel
    obtain ⟨A3,C3,rfl,hC3,hC4⟩:=hown.shape
    try rw [hnl] at hown
    try rw [hnl] at hbr
    try rw [hnl]
    have U2:=Yw hb2
    have UR:=Yw hbr
    have UO:=Yw hown
    have UL:=Yw hnl
    have UROW:=Yw hrow
    have UX:=Yw hx
    rw [hnl] at hC3
    unfold maxLen at hC4
    by_cases hjk:j < k2
    ·have hd_j:decide ((j:Int) < (k2:Int))=true:=Yf (by omega)
     have i0_j:(0:Int)≤(j:Int):=by omega
     have i1_j:(j:Int) < (k2:Int):=by omega
     obtain ⟨y2,hy2⟩:∃ x,(l2)[j]?=some x:=⟨(l2)[j]'(by rw [TL.out];exact hjk),Zz _⟩
     obtain ⟨g2,o2,c2',hv2,_,_,_,hgl2,cy2⟩:=strs_get hrow hy2
     have hys2:=TM.out y2 (Zy hy2)
     rw [TL.out] at hv2
     simp only [Ye,Yd,Addr.mk.injEq,true_and,and_true] at hv2
     clear hb2 hbr hown hnl hrow hx hy2
     (obtain ⟨rfl,-,rfl⟩:=hv2)
     go_wp2_with fail
     refine (Jb y2 (by omega) _).mono ?_
     rintro e w6 ⟨t6,ok6,rfl,ht6,hx6⟩
     have V2:=Yw (U2.out.ext hx6)
     have VR:=Yw (UR.out.ext hx6)
     have VX:=Yw (UX.out.trans hx6)
     cases ok6 with
     | false =>
      have c20:=(V2.out).at_ 0 (by simp)
      have c21:=(V2.out).at_ 1 (by simp)
      have c22:=(V2.out).at_ 2 (by simp)
      have f2:=(V2.out).fz
      have c0:=(VR.out).at_ 0 (by simp)
      have c1:=(VR.out).at_ 1 (by simp)
      have c2:=(VR.out).at_ 2 (by simp)
      have f0:=(VR.out).fz
      have l2:=(V2.out).lt
      have l0:=(VR.out).lt
      simp only [Zx,Zw] at c20 c21 c22 c0 c1 c2
      go_wp2_with fail
      refine Yt (v:=.tuple #[.agg #[.int .i64 0,.int .i64 0,.slice none 0 0],.int .i64 4]) (by simp [results,Tryz.results170,go_sem, *]) rfl ⟨0,0,.slice none 0 0,[],4,rfl,Rd.nil _ _ _,?_⟩
      (repeat refine Ya ?_ (by first|exact Hb2.out|exact Hbb.out|(simp only;omega)) _)
      exact VX.out
     | true =>
      have VO:=Yw (UO.out.ext hx6)
      have VROW:=Yw (UROW.out.ext hx6)
      clear hx6
      have c20:=(V2.out).at_ 0 (by simp)
      have c21:=(V2.out).at_ 1 (by simp)
      have c22:=(V2.out).at_ 2 (by simp)
      have f2:=(V2.out).fz
      have c0:=(VR.out).at_ 0 (by simp)
      have c1:=(VR.out).at_ 1 (by simp)
      have c2:=(VR.out).at_ 2 (by simp)
      have f0:=(VR.out).fz
      have l2:=(V2.out).lt
      have l0:=(VR.out).lt
      simp only [Zx,Zw] at c20 c21 c22 c0 c1 c2
      go_wp2_with (at_builtin;refine Xx Wr _ _ _ rfl rfl rfl rfl (VO.out.ext ((Yl _).alloc _)) rfl (K3 w6 _ _ _ rfl) (by rw [UL.out];show _+1≤_;omega) (by show 16≤1000;omega) (by simp;omega) ?_;intro A5 n5 c5 w7 hg;have hnr:¬ (Value.slice A3 j C3).ownBlock=some rb:=(by intro he;have:=(VO.out.lt rb he).1;omega);have hn2:¬ (Value.slice A3 j C3).ownBlock=some b2:=(by intro he;have:=(VO.out.lt b2 he).1;have:=Hlt.out;omega);have X7:=Yw (hg.ext w (VX.out.alloc _) (by have:=Hbb.out;omega));have S2:=Yw ((V2.out.ext ((Yl _).alloc _)).chg hg.chg hn2);have SR:=Yw ((VR.out.ext ((Yl _).alloc _)).chg hg.chg hnr);have SROW:=Yw (show RdE Wr w7 (fun k=>k < rb) _ _ from Rd.chg (VROW.out.ext ((Yl _).alloc _)) hg.chg (fun k hk he=>by have:=(VO.out.lt k he).1;omega));have hf7:=SR.out.fz;have c7:w7.cell? ⟨rb,2,none⟩=some (.slice A3 j C3):=SR.out.at_ 2 (by simp);have SO:=Yw hg.own;have SN:=Yw hg.len;clear hg hnr hn2)
      have SA:=Yw (show (Value.slice A5 n5 c5).ownBlock≠some rb by intro he;have:=(SO.out.lt rb he).1;omega)
      go_roundw
      case rel=>exact ⟨j+1,_,_,by omega,by go_num,S2.out.far Hne.out _,SR.out.set (j:=2) (by simp) _,SO.out.far SA.out _,by rw [Zs,UL.out];rfl,SROW.out.far (by omega) _,Ya X7.out Hbb.out _⟩
      case measure=>(simp [intOf];omega)
    have hd_j:decide ((j:Int) < (k2:Int))=false:=Yg (by omega)
    have c20:=(hb2).at_ 0 (by simp)
    have c21:=(hb2).at_ 1 (by simp)
    have c22:=(hb2).at_ 2 (by simp)
    have f2:=(hb2).fz
    have c0:=(hbr).at_ 0 (by simp)
    have c1:=(hbr).at_ 1 (by simp)
    have c2:=(hbr).at_ 2 (by simp)
    have f0:=(hbr).fz
    have l2:=(hb2).lt
    have l0:=(hbr).lt
    simp only [Zx,Zw] at c20 c21 c22 c0 c1 c2
    have UN:=Yw (show RdE Wr wr (fun k=>b2 < k) (.slice A3 j C3) ns by have h9:=hown.rd;exact Rd.mono h9 fun k hk _=>by have:=Hlt.out;omega)
    clear hb2 hbr hown hnl hrow hx
    cases q7:(op == 7)
    ·go_wp2_with fail
     refine (Vu _ _).mono ?_
     rintro e w8 ⟨tb8,rfl,hx8⟩
     have V2:=Yw (U2.out.ext hx8)
     have VR:=Yw (UR.out.ext hx8)
     have W8:=Yw (UX.out.trans hx8)
     have UN8:=Yw (UN.out.ext hx8)
     clear c20 c21 c22 c0 c1 c2 f2 f0 l2 l0 hx8
     have c20:=(V2.out).at_ 0 (by simp)
     have c21:=(V2.out).at_ 1 (by simp)
     have c22:=(V2.out).at_ 2 (by simp)
     have f2:=(V2.out).fz
     have c0:=(VR.out).at_ 0 (by simp)
     have c1:=(VR.out).at_ 1 (by simp)
     have c2:=(VR.out).at_ 2 (by simp)
     have f0:=(VR.out).fz
     have l2:=(V2.out).lt
     have l0:=(VR.out).lt
     simp only [Zx,Zw] at c20 c21 c22 c0 c1 c2
     cases tb8
     ·go_wp2_with fail
      refine Yt (v:=.tuple #[.agg #[.int .i64 _,.int .i64 z6,.slice A3 j C3],.int .i64 0]) (by simp [results,Tryz.results170,go_sem, *];rfl) rfl ⟨_,z6,.slice A3 j C3,ns,0,rfl,?_,?_⟩
      ·have h9:=UN8.out
       refine Rd.mono (S:=fun k=>b2 < k) ?_ fun _ _ _=>trivial
       (repeat refine RdE.far' ?_ (Yo _))
       exact h9
      (repeat refine Ya ?_ Hb2.out _)
      exact W8.out
     cases qa:decide (z6 < 1)
     ·cases qb:decide (1073741824 < z6)
      ·go_wp2_with fail
       refine Yt (v:=.tuple #[.agg #[.int .i64 _,.int .i64 z6,.slice A3 j C3],.int .i64 0]) (by simp [results,Tryz.results170,go_sem, *];rfl) rfl ⟨_,z6,.slice A3 j C3,ns,0,rfl,?_,?_⟩
       ·have h9:=UN8.out
        refine Rd.mono (S:=fun k=>b2 < k) ?_ fun _ _ _=>trivial
        (repeat refine RdE.far' ?_ (Yo _))
        exact h9
       (repeat refine Ya ?_ Hb2.out _)
       exact W8.out
      go_wp2_with fail
      refine Yt (v:=.tuple #[.agg #[.int .i64 0,.int .i64 0,.slice none 0 0],.int .i64 3]) (by simp [results,Tryz.results170,go_sem, *]) rfl ⟨0,0,.slice none 0 0,[],3,rfl,Rd.nil _ _ _,?_⟩
      (repeat refine Ya ?_ (by first|exact Hb2.out|exact Hbb.out|(simp only;omega)) _)
      exact W8.out
     go_wp2_with fail
     refine Yt (v:=.tuple #[.agg #[.int .i64 0,.int .i64 0,.slice none 0 0],.int .i64 3]) (by simp [results,Tryz.results170,go_sem, *]) rfl ⟨0,0,.slice none 0 0,[],3,rfl,Rd.nil _ _ _,?_⟩
     (repeat refine Ya ?_ (by first|exact Hb2.out|exact Hbb.out|(simp only;omega)) _)
     exact W8.out
    obtain rfl:op=7:=by simpa using q7
    by_cases qj:j=1
    ·have qj2:(!((j:Int) == 1))=false:=by simp;omega
     have qj3:((j:Int) != 1)=false:=qj2
     have qj4:(!(j == 1))=false:=by simp;omega
     have qj5:(j != 1)=false:=qj4
     go_wp2_with fail
     refine (Vu _ _).mono ?_
     rintro e w8 ⟨tb8,rfl,hx8⟩
     have V2:=Yw (U2.out.ext hx8)
     have VR:=Yw (UR.out.ext hx8)
     have W8:=Yw (UX.out.trans hx8)
     have UN8:=Yw (UN.out.ext hx8)
     clear c20 c21 c22 c0 c1 c2 f2 f0 l2 l0 hx8
     have c20:=(V2.out).at_ 0 (by simp)
     have c21:=(V2.out).at_ 1 (by simp)
     have c22:=(V2.out).at_ 2 (by simp)
     have f2:=(V2.out).fz
     have c0:=(VR.out).at_ 0 (by simp)
     have c1:=(VR.out).at_ 1 (by simp)
     have c2:=(VR.out).at_ 2 (by simp)
     have f0:=(VR.out).fz
     have l2:=(V2.out).lt
     have l0:=(VR.out).lt
     simp only [Zx,Zw] at c20 c21 c22 c0 c1 c2
     cases tb8
     ·go_wp2_with fail
      refine Yt (v:=.tuple #[.agg #[.int .i64 _,.int .i64 z6,.slice A3 j C3],.int .i64 0]) (by simp [results,Tryz.results170,go_sem, *];rfl) rfl ⟨_,z6,.slice A3 j C3,ns,0,rfl,?_,?_⟩
      ·have h9:=UN8.out
       refine Rd.mono (S:=fun k=>b2 < k) ?_ fun _ _ _=>trivial
       (repeat refine RdE.far' ?_ (Yo _))
       exact h9
      (repeat refine Ya ?_ Hb2.out _)
      exact W8.out
     cases qa:decide (z6 < 1)
     ·cases qb:decide (1073741824 < z6)
      ·go_wp2_with fail
       refine Yt (v:=.tuple #[.agg #[.int .i64 _,.int .i64 z6,.slice A3 j C3],.int .i64 0]) (by simp [results,Tryz.results170,go_sem, *];rfl) rfl ⟨_,z6,.slice A3 j C3,ns,0,rfl,?_,?_⟩
       ·have h9:=UN8.out
        refine Rd.mono (S:=fun k=>b2 < k) ?_ fun _ _ _=>trivial
        (repeat refine RdE.far' ?_ (Yo _))
        exact h9
       (repeat refine Ya ?_ Hb2.out _)
       exact W8.out
      go_wp2_with fail
      refine Yt (v:=.tuple #[.agg #[.int .i64 0,.int .i64 0,.slice none 0 0],.int .i64 3]) (by simp [results,Tryz.results170,go_sem, *]) rfl ⟨0,0,.slice none 0 0,[],3,rfl,Rd.nil _ _ _,?_⟩
      (repeat refine Ya ?_ (by first|exact Hb2.out|exact Hbb.out|(simp only;omega)) _)
      exact W8.out
     go_wp2_with fail
     refine Yt (v:=.tuple #[.agg #[.int .i64 0,.int .i64 0,.slice none 0 0],.int .i64 3]) (by simp [results,Tryz.results170,go_sem, *]) rfl ⟨0,0,.slice none 0 0,[],3,rfl,Rd.nil _ _ _,?_⟩
     (repeat refine Ya ?_ (by first|exact Hb2.out|exact Hbb.out|(simp only;omega)) _)
     exact W8.out
    have qj2:(!((j:Int) == 1))=true:=by simp;omega
    have qj3:((j:Int) != 1)=true:=qj2
    have qj4:(!(j == 1))=true:=by simp;omega
    have qj5:(j != 1)=true:=qj4
    have qj6:¬ (j:Int)=1:=by omega
    go_wp2_with fail
    refine Yt (v:=.tuple #[.agg #[.int .i64 0,.int .i64 0,.slice none 0 0],.int .i64 4]) (by simp [results,Tryz.results170,go_sem, *]) rfl ⟨0,0,.slice none 0 0,[],4,rfl,Rd.nil _ _ _,?_⟩
    (repeat refine Ya ?_ (by first|exact Hb2.out|exact Hbb.out|(simp only;omega)) _)
    exact UX.out
   have kc4:¬ 1=C1:=fun h=>hc9 h.symm
   have XROW:=Yw (RdE.far (c:=rb) (j:=1) (show RdE Wr w6 (fun k=>k < rb) (.slice (some ⟨g,o1+1,none⟩) (k - 1) (C1 - 1)) (l1.drop 1) from RdE.drop VROW.out rfl (by rw [TL.out];omega) (by rw [TL.out]) (fun h=>rfl) (by omega) (by unfold maxLen;omega)) (by omega) (.int .i64 z6))
   go_wp2_with fail
   go_cut [4] from 55 to 57 (fun o wx=>∃ (a2:Option Addr) (k2 c2:Nat) (l2:List ByteArray),o=.slice a2 k2 c2∧l2.length=k2∧k2≤4097∧(∀ x∈l2,x.size≤4096)∧RdE Wr wx (fun k=>k < rb) (.slice a2 k2 c2) l2∧Xs wx b2 [.int .i64 0,.int .i64 0,.slice none 0 0]∧Xs wx rb [.int .i64 op,.int .i64 z6,.slice none 0 0]∧Ext w wx)
   case first =>
    rename_i J1 K1 hJ hM
    go_region
    all_goals
     go_simp
     refine hM _ _ (hJ _ _ ?_)
     (repeat apply Exists.intro)
     exact ⟨⟨some ⟨g,(o1+1),none⟩,(k - 1),(C1 - 1),l1.drop 1,rfl,XL.out,by omega,XM.out,by first|exact XROW.out.ext (Yl _).drew|exact XROW.out.ext ((Yl _).drewN _),by first|exact X2.out.ext (Yl _).drew|exact X2.out.ext ((Yl _).drewN _),by first|exact XR.out.ext (Yl _).drew|exact XR.out.ext ((Yl _).drewN _),by first|exact XX.out.drew|exact XX.out.drewN _⟩,rfl⟩
   obtain ⟨a2,k2,c2',l2,rfl,hl2,hk2,hm2,hrow2,hb22,hbr2,hxx⟩:=hcut
   clear TROW TL TM T2 TR TX XROW X2 XR XX XL XM VROW V2 VR VX
   have TROW:=Yw hrow2
   have TL:=Yw hl2
   have TM:=Yw hm2
   have T2:=Yw hb22
   have TR:=Yw hbr2
   have TX:=Yw hxx
   clear hrow2 hl2 hm2 hb22 hbr2 hxx c20 c21 c22 c0 c1 c2 f2 f0 l0
   go_wp2_with fail
   go_loopw [61] (fun o wr=>∃ (j:Nat) (nv:Value) (ns:List ByteArray),j≤k2∧o=.int .i64 (j:Int)∧Xs wr b2 [.int .i64 0,.int .i64 0,.slice none 0 0]∧Xs wr rb [.int .i64 op,.int .i64 z6,nv]∧Own Wr wr (rb+1) nv ns∧ns.length=j∧RdE Wr wr (fun k=>k < rb) (.slice a2 k2 c2') l2∧Ext w wr) (fun o _=>k2 - (intOf o).toNat)
   case atStart=>exact ⟨0,_,[],by omega,rfl,T2.out,TR.out,Own.nil _ _ _,rfl,TROW.out,TX.out⟩
   obtain ⟨j,nv,ns,hj,rfl,hb2,hbr,hown,hnl,hrow,hx⟩:=hrel
   obtain ⟨A3,C3,rfl,hC3,hC4⟩:=hown.shape
   try rw [hnl] at hown
   try rw [hnl] at hbr
   try rw [hnl]
   have U2:=Yw hb2
   have UR:=Yw hbr
   have UO:=Yw hown
   have UL:=Yw hnl
   have UROW:=Yw hrow
   have UX:=Yw hx
   rw [hnl] at hC3
   unfold maxLen at hC4
   by_cases hjk:j < k2
   ·have hd_j:decide ((j:Int) < (k2:Int))=true:=Yf (by omega)
    have i0_j:(0:Int)≤(j:Int):=by omega
    have i1_j:(j:Int) < (k2:Int):=by omega
    obtain ⟨y2,hy2⟩:∃ x,(l2)[j]?=some x:=⟨(l2)[j]'(by rw [TL.out];exact hjk),Zz _⟩
    obtain ⟨g2,o2,c2',hv2,_,_,_,hgl2,cy2⟩:=strs_get hrow hy2
    have hys2:=TM.out y2 (Zy hy2)
    rw [TL.out] at hv2
    simp only [Ye,Yd,Addr.mk.injEq,true_and,and_true] at hv2
    clear hb2 hbr hown hnl hrow hx hy2
    (obtain ⟨rfl,-,rfl⟩:=hv2)
    go_wp2_with fail
    refine (Jb y2 (by omega) _).mono ?_
    rintro e w6 ⟨t6,ok6,rfl,ht6,hx6⟩
    have V2:=Yw (U2.out.ext hx6)
    have VR:=Yw (UR.out.ext hx6)
    have VX:=Yw (UX.out.trans hx6)
    cases ok6 with
    | false =>
     have c20:=(V2.out).at_ 0 (by simp)
     have c21:=(V2.out).at_ 1 (by simp)
     have c22:=(V2.out).at_ 2 (by simp)
     have f2:=(V2.out).fz
     have c0:=(VR.out).at_ 0 (by simp)
     have c1:=(VR.out).at_ 1 (by simp)
     have c2:=(VR.out).at_ 2 (by simp)
     have f0:=(VR.out).fz
     have l2:=(V2.out).lt
     have l0:=(VR.out).lt
     simp only [Zx,Zw] at c20 c21 c22 c0 c1 c2
     go_wp2_with fail
     refine Yt (v:=.tuple #[.agg #[.int .i64 0,.int .i64 0,.slice none 0 0],.int .i64 4]) (by simp [results,Tryz.results170,go_sem, *]) rfl ⟨0,0,.slice none 0 0,[],4,rfl,Rd.nil _ _ _,?_⟩
     (repeat refine Ya ?_ (by first|exact Hb2.out|exact Hbb.out|(simp only;omega)) _)
     exact VX.out
    | true =>
     have VO:=Yw (UO.out.ext hx6)
     have VROW:=Yw (UROW.out.ext hx6)
     clear hx6
     have c20:=(V2.out).at_ 0 (by simp)
     have c21:=(V2.out).at_ 1 (by simp)
     have c22:=(V2.out).at_ 2 (by simp)
     have f2:=(V2.out).fz
     have c0:=(VR.out).at_ 0 (by simp)
     have c1:=(VR.out).at_ 1 (by simp)
     have c2:=(VR.out).at_ 2 (by simp)
     have f0:=(VR.out).fz
     have l2:=(V2.out).lt
     have l0:=(VR.out).lt
     simp only [Zx,Zw] at c20 c21 c22 c0 c1 c2
     go_wp2_with (at_builtin;refine Xx Wr _ _ _ rfl rfl rfl rfl (VO.out.ext ((Yl _).alloc _)) rfl (K3 w6 _ _ _ rfl) (by rw [UL.out];show _+1≤_;omega) (by show 16≤1000;omega) (by simp;omega) ?_;intro A5 n5 c5 w7 hg;have hnr:¬ (Value.slice A3 j C3).ownBlock=some rb:=(by intro he;have:=(VO.out.lt rb he).1;omega);have hn2:¬ (Value.slice A3 j C3).ownBlock=some b2:=(by intro he;have:=(VO.out.lt b2 he).1;have:=Hlt.out;omega);have X7:=Yw (hg.ext w (VX.out.alloc _) (by have:=Hbb.out;omega));have S2:=Yw ((V2.out.ext ((Yl _).alloc _)).chg hg.chg hn2);have SR:=Yw ((VR.out.ext ((Yl _).alloc _)).chg hg.chg hnr);have SROW:=Yw (show RdE Wr w7 (fun k=>k < rb) _ _ from Rd.chg (VROW.out.ext ((Yl _).alloc _)) hg.chg (fun k hk he=>by have:=(VO.out.lt k he).1;omega));have hf7:=SR.out.fz;have c7:w7.cell? ⟨rb,2,none⟩=some (.slice A3 j C3):=SR.out.at_ 2 (by simp);have SO:=Yw hg.own;have SN:=Yw hg.len;clear hg hnr hn2)
     have SA:=Yw (show (Value.slice A5 n5 c5).ownBlock≠some rb by intro he;have:=(SO.out.lt rb he).1;omega)
     go_roundw
     case rel=>exact ⟨j+1,_,_,by omega,by go_num,S2.out.far Hne.out _,SR.out.set (j:=2) (by simp) _,SO.out.far SA.out _,by rw [Zs,UL.out];rfl,SROW.out.far (by omega) _,Ya X7.out Hbb.out _⟩
     case measure=>(simp [intOf];omega)
   have hd_j:decide ((j:Int) < (k2:Int))=false:=Yg (by omega)
   have c20:=(hb2).at_ 0 (by simp)
   have c21:=(hb2).at_ 1 (by simp)
   have c22:=(hb2).at_ 2 (by simp)
   have f2:=(hb2).fz
   have c0:=(hbr).at_ 0 (by simp)
   have c1:=(hbr).at_ 1 (by simp)
   have c2:=(hbr).at_ 2 (by simp)
   have f0:=(hbr).fz
   have l2:=(hb2).lt
   have l0:=(hbr).lt
   simp only [Zx,Zw] at c20 c21 c22 c0 c1 c2
   have UN:=Yw (show RdE Wr wr (fun k=>b2 < k) (.slice A3 j C3) ns by have h9:=hown.rd;exact Rd.mono h9 fun k hk _=>by have:=Hlt.out;omega)
   clear hb2 hbr hown hnl hrow hx
   cases q7:(op == 7)
   ·go_wp2_with fail
    refine (Vu _ _).mono ?_
    rintro e w8 ⟨tb8,rfl,hx8⟩
    have V2:=Yw (U2.out.ext hx8)
    have VR:=Yw (UR.out.ext hx8)
    have W8:=Yw (UX.out.trans hx8)
    have UN8:=Yw (UN.out.ext hx8)
    clear c20 c21 c22 c0 c1 c2 f2 f0 l2 l0 hx8
    have c20:=(V2.out).at_ 0 (by simp)
    have c21:=(V2.out).at_ 1 (by simp)
    have c22:=(V2.out).at_ 2 (by simp)
    have f2:=(V2.out).fz
    have c0:=(VR.out).at_ 0 (by simp)
    have c1:=(VR.out).at_ 1 (by simp)
    have c2:=(VR.out).at_ 2 (by simp)
    have f0:=(VR.out).fz
    have l2:=(V2.out).lt
    have l0:=(VR.out).lt
    simp only [Zx,Zw] at c20 c21 c22 c0 c1 c2
    cases tb8
    ·go_wp2_with fail
     refine Yt (v:=.tuple #[.agg #[.int .i64 _,.int .i64 z6,.slice A3 j C3],.int .i64 0]) (by simp [results,Tryz.results170,go_sem, *];rfl) rfl ⟨_,z6,.slice A3 j C3,ns,0,rfl,?_,?_⟩
     ·have h9:=UN8.out
      refine Rd.mono (S:=fun k=>b2 < k) ?_ fun _ _ _=>trivial
      (repeat refine RdE.far' ?_ (Yo _))
      exact h9
     (repeat refine Ya ?_ Hb2.out _)
     exact W8.out
    cases qa:decide (z6 < 1)
    ·cases qb:decide (1073741824 < z6)
     ·go_wp2_with fail
      refine Yt (v:=.tuple #[.agg #[.int .i64 _,.int .i64 z6,.slice A3 j C3],.int .i64 0]) (by simp [results,Tryz.results170,go_sem, *];rfl) rfl ⟨_,z6,.slice A3 j C3,ns,0,rfl,?_,?_⟩
      ·have h9:=UN8.out
       refine Rd.mono (S:=fun k=>b2 < k) ?_ fun _ _ _=>trivial
       (repeat refine RdE.far' ?_ (Yo _))
       exact h9
      (repeat refine Ya ?_ Hb2.out _)
      exact W8.out
     go_wp2_with fail
     refine Yt (v:=.tuple #[.agg #[.int .i64 0,.int .i64 0,.slice none 0 0],.int .i64 3]) (by simp [results,Tryz.results170,go_sem, *]) rfl ⟨0,0,.slice none 0 0,[],3,rfl,Rd.nil _ _ _,?_⟩
     (repeat refine Ya ?_ (by first|exact Hb2.out|exact Hbb.out|(simp only;omega)) _)
     exact W8.out
    go_wp2_with fail
    refine Yt (v:=.tuple #[.agg #[.int .i64 0,.int .i64 0,.slice none 0 0],.int .i64 3]) (by simp [results,Tryz.results170,go_sem, *]) rfl ⟨0,0,.slice none 0 0,[],3,rfl,Rd.nil _ _ _,?_⟩
    (repeat refine Ya ?_ (by first|exact Hb2.out|exact Hbb.out|(simp only;omega)) _)
    exact W8.out
   obtain rfl:op=7:=by simpa using q7
   by_cases qj:j=1
   ·have qj2:(!((j:Int) == 1))=false:=by simp;omega
    have qj3:((j:Int) != 1)=false:=qj2
    have qj4:(!(j == 1))=false:=by simp;omega
    have qj5:(j != 1)=false:=qj4
    go_wp2_with fail
    refine (Vu _ _).mono ?_
    rintro e w8 ⟨tb8,rfl,hx8⟩
    have V2:=Yw (U2.out.ext hx8)
    have VR:=Yw (UR.out.ext hx8)
    have W8:=Yw (UX.out.trans hx8)
    have UN8:=Yw (UN.out.ext hx8)
    clear c20 c21 c22 c0 c1 c2 f2 f0 l2 l0 hx8
    have c20:=(V2.out).at_ 0 (by simp)
    have c21:=(V2.out).at_ 1 (by simp)
    have c22:=(V2.out).at_ 2 (by simp)
    have f2:=(V2.out).fz
    have c0:=(VR.out).at_ 0 (by simp)
    have c1:=(VR.out).at_ 1 (by simp)
    have c2:=(VR.out).at_ 2 (by simp)
    have f0:=(VR.out).fz
    have l2:=(V2.out).lt
    have l0:=(VR.out).lt
    simp only [Zx,Zw] at c20 c21 c22 c0 c1 c2
    cases tb8
    ·go_wp2_with fail
     refine Yt (v:=.tuple #[.agg #[.int .i64 _,.int .i64 z6,.slice A3 j C3],.int .i64 0]) (by simp [results,Tryz.results170,go_sem, *];rfl) rfl ⟨_,z6,.slice A3 j C3,ns,0,rfl,?_,?_⟩
     ·have h9:=UN8.out
      refine Rd.mono (S:=fun k=>b2 < k) ?_ fun _ _ _=>trivial
      (repeat refine RdE.far' ?_ (Yo _))
      exact h9
     (repeat refine Ya ?_ Hb2.out _)
     exact W8.out
    cases qa:decide (z6 < 1)
    ·cases qb:decide (1073741824 < z6)
     ·go_wp2_with fail
      refine Yt (v:=.tuple #[.agg #[.int .i64 _,.int .i64 z6,.slice A3 j C3],.int .i64 0]) (by simp [results,Tryz.results170,go_sem, *];rfl) rfl ⟨_,z6,.slice A3 j C3,ns,0,rfl,?_,?_⟩
      ·have h9:=UN8.out
       refine Rd.mono (S:=fun k=>b2 < k) ?_ fun _ _ _=>trivial
       (repeat refine RdE.far' ?_ (Yo _))
       exact h9
      (repeat refine Ya ?_ Hb2.out _)
      exact W8.out
     go_wp2_with fail
     refine Yt (v:=.tuple #[.agg #[.int .i64 0,.int .i64 0,.slice none 0 0],.int .i64 3]) (by simp [results,Tryz.results170,go_sem, *]) rfl ⟨0,0,.slice none 0 0,[],3,rfl,Rd.nil _ _ _,?_⟩
     (repeat refine Ya ?_ (by first|exact Hb2.out|exact Hbb.out|(simp only;omega)) _)
     exact W8.out
    go_wp2_with fail
    refine Yt (v:=.tuple #[.agg #[.int .i64 0,.int .i64 0,.slice none 0 0],.int .i64 3]) (by simp [results,Tryz.results170,go_sem, *]) rfl ⟨0,0,.slice none 0 0,[],3,rfl,Rd.nil _ _ _,?_⟩
    (repeat refine Ya ?_ (by first|exact Hb2.out|exact Hbb.out|(simp only;omega)) _)
    exact W8.out
   have qj2:(!((j:Int) == 1))=true:=by simp;omega
   have qj3:((j:Int) != 1)=true:=qj2
   have qj4:(!(j == 1))=true:=by simp;omega
   have qj5:(j != 1)=true:=qj4
   have qj6:¬ (j:Int)=1:=by omega
   go_wp2_with fail
   refine Yt (v:=.tuple #[.agg #[.int .i64 0,.int .i64 0,.slice none 0 0],.int .i64 4]) (by simp [results,Tryz.results170,go_sem, *]) rfl ⟨0,0,.slice none 0 0,[],4,rfl,Rd.nil _ _ _,?_⟩
   (repeat refine Ya ?_ (by first|exact Hb2.out|exact Hbb.out|(simp only;omega)) _)
   exact UX.out
end Go.Proofs.YtnbclgbicnpmnaaGreat
