/- Lemmas of this claim: RKept, EncS, Ls, Dsk, P1, RPu, P2, Sna, Si. Conditions: as named. -/
import Derived.Test.YtnbclgbicnpmnaaGreatA03
import Derived.Test.YtnbclgbicnpmnaaGreatA05
import Derived.Test.YtnbclgbicnpmnaaGreatA06
import Derived.Test.YtnbclgbicnpmnaaGreatA09
import Derived.Test.YtnbclgbicnpmnaaGreatA11
namespace Go.Proofs.YtnbclgbicnpmnaaGreat
open Go.RowKit Go.Sort
open List renaming getElem?_eq_getElem → Zz, length_append → Zs, getElem?_eq_some_iff → Zr, length_take → Zp, getElem?_map → Zn, take_of_length_le → Zm, length_set → Zf, getElem?_set_self → Zc, getElem?_set_ne → Zb, take_add_one → Za, length_drop → Z8, map_append → Z9, getElem?_drop → Yz, getElem?_take → Yy, getElem?_set → Yx
open Lib renaming hid → Yw
open Go renaming wpQuiet_step → Yv, wpQuiet_nil → Yu
open IntWalk renaming i64_in → Yq
open Classical renaming choose_spec → Yp
open Nat renaming le_refl → Yo
open Ext renaming refl → Yl
set_option maxHeartbeats 40000000
set_option maxRecDepth 100000
set_option linter.all false
theorem Zx1:(Tryz.prog.info? 161).map (fun i=>(i.zero,i.size,i.bytes))=some (some (.agg #[.string ⟨#[]⟩,.int .i64 0,.int .i64 0,.string ⟨#[]⟩,.int .i64 0]),5,56):=by kernel_rfl
theorem De:Tryz.prog.underlying 131=some (.slice 161):=by kernel_rfl
theorem Zzs {key:ByteArray} {r:Rc} {d:Bool} {p:Kp} {l:List Kp} (h:p.1=key):Q5 key r d (p::l)=Q5 key r d l:=by rw [Q5,if_pos h]
theorem Zry {key:ByteArray} {r:Rc} {p:Kp} {l:List Kp} (h:p.1≠key) (hl:kb key < kb p.1):Q5 key r false (p::l)=(key,r)::p::Q5 key r true l:=by rw [Q5,if_neg h,if_pos ⟨rfl,hl⟩]
theorem Zyj {key:ByteArray} {r:Rc} {d:Bool} {p:Kp} {l:List Kp} (h:p.1≠key) (hl:¬ (d=false∧kb key < kb p.1)):Q5 key r d (p::l)=p::Q5 key r d l:=by rw [Q5,if_neg h,if_neg hl]
theorem J2 (l:List Kp) (p:Kp):Wp (l++[p])=Wp l++Fl p:=by rw [Ke];simp [Wp]
theorem Zw0 {w:World} {base base':Nat} {e:TypeId} {size:Nat} {v:Value} {n:Nat} {xs:List Value} (h:w.ownsRow base e size v n xs) (hb:base'≤base):w.ownsRow base' e size v n xs:=by
 refine ⟨h.1,?_⟩
 rcases h.2 with h2 | ⟨g,cap,cur,h1,h2,h3⟩
 ·exact .inl h2
 exact .inr ⟨g,cap,cur,h1,Nat.le_trans hb h2,h3⟩
def Zwe (l:List Kp) (w:World) (e:Ending) (w':World):Prop:=∃ v,e=.returned v∧w'.ownsRow w.heap.size 161 5 v l.length (Wp l)∧Ext w w'
theorem Av {S:Nat→Prop} (v:Value) (l:List Kp) (key:ByteArray) (r:Rc) (w:World) (hl:KeptAt w S v l) (hll:l.length≤100000) :
 Calls Tryz.prog 73 #[v,.string key,rcV r] w (Zwe (Lo l key r) w):=by
 obtain ⟨A,c,rfl⟩:=hl.shape
 obtain ⟨i0,hi,hz0,hz1,hz2⟩:=info_parts Zx1
 obtain ⟨st,ow,nm,dl⟩:=r
 unfold rcV
 have Hl:=Yw hl
 clear hl
 go_enter Tryz.func73,Tryz.ntmps73
 go_wp2_with fail
 have Hx0:=Yw ((Yl w).alloc (.cells #[.int .i64 st,.int .i64 ow,.string nm,.int .i64 dl] 51))
 have q0:(w.alloc (.cells #[.int .i64 st,.int .i64 ow,.string nm,.int .i64 dl] 51)).cell? ⟨w.heap.size,0,none⟩=some (.int .i64 st):=by go_simp
 have q1:(w.alloc (.cells #[.int .i64 st,.int .i64 ow,.string nm,.int .i64 dl] 51)).cell? ⟨w.heap.size,1,none⟩=some (.int .i64 ow):=by go_simp
 have q2:(w.alloc (.cells #[.int .i64 st,.int .i64 ow,.string nm,.int .i64 dl] 51)).cell? ⟨w.heap.size,2,none⟩=some (.string nm):=by go_simp
 have q3:(w.alloc (.cells #[.int .i64 st,.int .i64 ow,.string nm,.int .i64 dl] 51)).cell? ⟨w.heap.size,3,none⟩=some (.int .i64 dl):=by go_simp
 have ql:w.heap.size < (w.alloc (.cells #[.int .i64 st,.int .i64 ow,.string nm,.int .i64 dl] 51)).heap.size:=by simp
 obtain ⟨W0,hW0⟩:∃ W,w.alloc (.cells #[.int .i64 st,.int .i64 ow,.string nm,.int .i64 dl] 51)=W:=⟨_,rfl⟩
 rw [hW0] at Hx0 q0 q1 q2 q3 ql
 rw [hW0]
 have hlow:w.heap.size≤W0.heap.size:=by omega
 clear hW0
 go_loopw [16,8,7] (fun o d v wr=>∃ (k:Nat) (db:Bool) (out:List Kp),k≤l.length∧o=.int .i64 (k:Int)∧d=.bool db∧wr.ownsRow W0.heap.size 161 5 v out.length (Wp out)∧out++Q5 key ⟨st,ow,nm,dl⟩ db (l.drop k)=Lo l key ⟨st,ow,nm,dl⟩∧out.length≤2 * k∧Ext W0 wr) (fun o _ _ _=>l.length - (intOf o).toNat)
 case atStart=>exact ⟨0,st == 0,[],by omega,rfl,rfl,World.ownsRow_nil _ _ _ _,rfl,by simp,Yl _⟩
 obtain ⟨k,db,out,hk,rfl,rfl,hown,hinv,hol,hx⟩:=hrel
 obtain ⟨la,lc,rfl⟩:=Vw hown
 have Hx:=Yw hx
 have Hown:=Yw hown
 replace q0:=(hx.cell (p:=⟨w.heap.size,0,none⟩) ql).trans q0
 replace q1:=(hx.cell (p:=⟨w.heap.size,1,none⟩) ql).trans q1
 replace q2:=(hx.cell (p:=⟨w.heap.size,2,none⟩) ql).trans q2
 replace q3:=(hx.cell (p:=⟨w.heap.size,3,none⟩) ql).trans q3
 replace ql:=Nat.lt_of_lt_of_le ql hx.size
 clear hx hown
 by_cases hlt:k < l.length
 ·have hd:decide ((k:Int) < (l.length:Int))=true:=by simpa using hlt
  obtain ⟨p,hpk⟩:∃ p,l[k]?=some p:=⟨l[k],by simp [hlt]⟩
  obtain ⟨g,o,c',hv,p1,p2,_,b1,x0,x1,x2,x3,x4⟩:=KeptAt.get (Rd.ext Hl.out (Hx0.out.trans Hx.out)) hpk
  simp only [Ye,true_and] at hv
  obtain ⟨rfl,rfl⟩:=hv
  have j0:(0:Int)≤(k:Int):=by omega
  have j1:(k:Int) < (l.length:Int):=by omega
  rw [Dp hpk] at hinv
  have Hinv:=Yw hinv
  clear hpk hinv
  by_cases he:p.1=key
  ·have hinv:=Hinv.out
   rw [Zzs he] at hinv
   subst he
   replace Hinv:=Yw hinv
   clear hinv q0 q1 q2 q3
   go_wp2_with fail
   go_roundw
   case rel=>exact ⟨k+1,db,out,by omega,by go_num,rfl,(Tx Hown.out ((Yl _).alloc _)),Hinv.out,by omega,Hx.out.alloc _⟩
   case measure=>simp [intOf];omega
  have hne:(p.1.toList == key.toList)=false:=by rw [ByteArray.toList_eq,ByteArray.toList_eq];simp only [beq_eq_false_iff_ne];exact fun e=>he (Iz e)
  have He:=Yw he
  clear he
  go_upto_region 7 with fail
  have z0:(wr.alloc (.cells #[.string p.1,.int .i64 p.2.st,.int .i64 p.2.ow,.string p.2.nm,.int .i64 p.2.dl] 161)).cell? ⟨wr.heap.size,0,none⟩=some (.string p.1):=by go_simp
  have z1:(wr.alloc (.cells #[.string p.1,.int .i64 p.2.st,.int .i64 p.2.ow,.string p.2.nm,.int .i64 p.2.dl] 161)).cell? ⟨wr.heap.size,1,none⟩=some (.int .i64 p.2.st):=by go_simp
  have z2:(wr.alloc (.cells #[.string p.1,.int .i64 p.2.st,.int .i64 p.2.ow,.string p.2.nm,.int .i64 p.2.dl] 161)).cell? ⟨wr.heap.size,2,none⟩=some (.int .i64 p.2.ow):=by go_simp
  have z3:(wr.alloc (.cells #[.string p.1,.int .i64 p.2.st,.int .i64 p.2.ow,.string p.2.nm,.int .i64 p.2.dl] 161)).cell? ⟨wr.heap.size,3,none⟩=some (.string p.2.nm):=by go_simp
  have z4:(wr.alloc (.cells #[.string p.1,.int .i64 p.2.st,.int .i64 p.2.ow,.string p.2.nm,.int .i64 p.2.dl] 161)).cell? ⟨wr.heap.size,4,none⟩=some (.int .i64 p.2.dl):=by go_simp
  have hxW:Ext wr (wr.alloc (.cells #[.string p.1,.int .i64 p.2.st,.int .i64 p.2.ow,.string p.2.nm,.int .i64 p.2.dl] 161)):=(Yl wr).alloc _
  have zl:wr.heap.size < (wr.alloc (.cells #[.string p.1,.int .i64 p.2.st,.int .i64 p.2.ow,.string p.2.nm,.int .i64 p.2.dl] 161)).heap.size:=by simp
  obtain ⟨bb,hbb⟩:∃ c,wr.heap.size=c:=⟨_,rfl⟩
  obtain ⟨W1,hW1⟩:∃ W,wr.alloc (.cells #[.string p.1,.int .i64 p.2.st,.int .i64 p.2.ow,.string p.2.nm,.int .i64 p.2.dl] 161)=W:=⟨_,rfl⟩
  rw [hW1] at z0 z1 z2 z3 z4 hxW zl
  rw [hW1]
  rw [hbb] at z0 z1 z2 z3 z4 zl
  rw [hbb]
  replace q0:=(hxW.cell (p:=⟨w.heap.size,0,none⟩) ql).trans q0
  replace q1:=(hxW.cell (p:=⟨w.heap.size,1,none⟩) ql).trans q1
  replace q2:=(hxW.cell (p:=⟨w.heap.size,2,none⟩) ql).trans q2
  replace q3:=(hxW.cell (p:=⟨w.heap.size,3,none⟩) ql).trans q3
  have Hown1:=Yw (Tx Hown.out hxW)
  have Hx1:=Yw (Hx.out.trans hxW)
  have hw1:W0.heap.size≤W1.heap.size:=by have:=(Hx.out.trans hxW).size;exact this
  have hnb:¬ (Value.slice la out.length lc).ownBlock=some bb:=fun e=>by have:=(Hown.out.lt bb e).2;omega
  clear hW1 hbb hxW x0 x1 x2 x3 x4 Hx Hown b1
  go_cut [31] from 17 to 42 (fun x wx=>(∃ bo:Bool,x=.bool bo∧(bo=true↔db=false∧kb key < kb p.1))∧wx=W1)
  case first =>
   clear q0 q1 q2 q3 z1 z2 z3 z4
   cases db with
   | true =>
    go_wp2_with fail
    go_meet
    exact ⟨⟨_,rfl,by simp⟩,rfl⟩
   | false =>
    by_cases hin:kb key < kb p.1
    ·obtain ⟨g1,_⟩:=Tt (x:=p.1) (s:=key) hin
     go_wp2_with fail
     go_meet
     exact ⟨⟨_,rfl,by simpa using hin⟩,rfl⟩
    have g1:Op.bytesLess p.1.toList key.toList=true:=by
     have:=Mf (x:=p.1) (s:=key) hin
     rw [hne,Bool.or_false] at this
     exact this
    go_wp2_with fail
    go_meet
    exact ⟨⟨_,rfl,by simpa using hin⟩,rfl⟩
  case rest =>
  obtain ⟨⟨bo,rfl,hbo⟩,rfl⟩:=hcut
  have Hbo:=Yw hbo
  clear hbo
  go_upto_if 31 with fail
  go_cut [8,7] from 17 to 42 (fun d v wx=>∃ (db2:Bool) (out2:List Kp),d=.bool db2∧wx.ownsRow W0.heap.size 161 5 v out2.length (Wp out2)∧out2++p::Q5 key ⟨st,ow,nm,dl⟩ db2 (l.drop (k+1))=Lo l key ⟨st,ow,nm,dl⟩∧out2.length≤2 * k+1∧Chg (fun i=>(Value.slice la out.length lc).ownBlock=some i) wc wx∧Ext W0 wx)
  case first =>
   cases bo with
   | true =>
    obtain ⟨hdb,hin⟩:=Hbo.out.1 rfl
    have hinv:=Hinv.out
    rw [hdb,Zry He.out hin] at hinv
    have hrl:=Qo wc #[.string key,.int .i64 st,.int .i64 ow,.string nm,.int .i64 dl] 161 5 (by rfl)
    have hbz:W0.heap.size≤(wc.alloc (.cells #[.string key,.int .i64 st,.int .i64 ow,.string nm,.int .i64 dl] 161)).heap.size:=by simp;omega
    replace Hinv:=Yw hinv
    clear hinv hin hdb z0 z1 z2 z3 z4
    go_wp2_with (at_builtin;refine Vf _ rfl _ _ 131 rfl W0.heap.size 161 i0 _ 5 56 De hi hz0 hz1 hz2 rfl (by decide) _ out.length _ rfl (Hown1.out.alloc _) (fun _=>True) _ 1 _ rfl hrl (by simp [Value.oneCell']) (by unfold maxLen;omega) (by omega) hbz ?_;intro v' w6 ha;obtain ⟨a3,c3',hv3⟩:=Vw ha.own;subst hv3)
    go_meet
    refine ⟨true,out++[(key,⟨st,ow,nm,dl⟩)],rfl,?_,by rw [← Hinv.out];simp,by simp;omega,((Chg.refl _ wc).alloc _).grown ha.grown fun k hk=>.inl hk,(Hx1.out.alloc _).grown ha.grown fun k hk=>(Hown1.out.lt k hk).1⟩
    rw [J2,Zs]
    exact ha.own
   | false =>
    have hinv:=Hinv.out
    rw [Zyj He.out fun h=>by have:=Hbo.out.2 h;simp at this] at hinv
    replace Hinv:=Yw hinv
    clear hinv z0 z1 z2 z3 z4
    go_wp2_with fail
    go_meet
    exact ⟨db,out,rfl,Hown1.out,Hinv.out,by omega,Chg.refl _ _,Hx1.out⟩
  case rest =>
  obtain ⟨db2,out2,rfl,hown2,hinv2,hol2,hc2,hx2⟩:=hcut
  obtain ⟨la2,lc2,rfl⟩:=Vw hown2
  replace z0:=(hc2.cell (p:=⟨bb,0,none⟩) zl hnb).trans z0
  replace z1:=(hc2.cell (p:=⟨bb,1,none⟩) zl hnb).trans z1
  replace z2:=(hc2.cell (p:=⟨bb,2,none⟩) zl hnb).trans z2
  replace z3:=(hc2.cell (p:=⟨bb,3,none⟩) zl hnb).trans z3
  replace z4:=(hc2.cell (p:=⟨bb,4,none⟩) zl hnb).trans z4
  have hrl:=Qo wc #[.string p.1,.int .i64 p.2.st,.int .i64 p.2.ow,.string p.2.nm,.int .i64 p.2.dl] 161 5 (by rfl)
  have hbz:W0.heap.size≤(wc.alloc (.cells #[.string p.1,.int .i64 p.2.st,.int .i64 p.2.ow,.string p.2.nm,.int .i64 p.2.dl] 161)).heap.size:=by have:=hx2.size;simp;omega
  have Hx2:=Yw hx2
  have Hown2:=Yw hown2
  have Hinv2:=Yw hinv2
  clear hx2 hc2 hown2 hinv2 q0 q1 q2 q3 Hinv Hown1 Hx1
  go_wp2_with (at_builtin;refine Vf _ rfl _ _ 131 rfl W0.heap.size 161 i0 _ 5 56 De hi hz0 hz1 hz2 rfl (by decide) _ out2.length _ rfl (Hown2.out.alloc _) (fun _=>True) _ 1 _ rfl hrl (by simp [Value.oneCell']) (by unfold maxLen;omega) (by omega) hbz ?_;intro v' w6 ha;obtain ⟨a3,c3',hv3⟩:=Vw ha.own;subst hv3)
  have hend:w6.ownsRow W0.heap.size 161 5 (.slice a3 (out2.length+1) c3') (out2++[p]).length (Wp (out2++[p])):=by
   rw [J2,Zs]
   exact ha.own
  have hx6:=(Hx2.out.alloc (.cells #[.string p.1,.int .i64 p.2.st,.int .i64 p.2.ow,.string p.2.nm,.int .i64 p.2.dl] 161)).grown ha.grown fun k hk=>(Hown2.out.lt k hk).1
  have Hend:=Yw hend
  have Hx6:=Yw hx6
  clear ha hend hx6 hrl hbz
  go_roundw
  case rel=>exact ⟨k+1,db2,out2++[p],by omega,by go_num,rfl,Hend.out,by rw [← Hinv2.out];simp,by simp;omega,Hx6.out⟩
  case measure=>simp [intOf];omega
 have hd:decide ((k:Int) < (l.length:Int))=false:=by simp;omega
 rw [List.drop_of_length_le (by omega)] at hinv
 cases db with
 | true =>
  have hout:out=Lo l key ⟨st,ow,nm,dl⟩:=by rw [← hinv];simp [Q5]
  subst hout
  clear q0 q1 q2 q3 hinv
  go_wp2_with fail
  go_ret
  exact ⟨_,rfl,Zw0 Hown.out hlow,Hx0.out.trans Hx.out⟩
 | false =>
  have hinv2:out++[(key,(⟨st,ow,nm,dl⟩:Rc))]=Lo l key ⟨st,ow,nm,dl⟩:=by rw [← hinv];simp [Q5]
  have hrl:=Qo wr #[.string key,.int .i64 st,.int .i64 ow,.string nm,.int .i64 dl] 161 5 (by rfl)
  have hbz:W0.heap.size≤(wr.alloc (.cells #[.string key,.int .i64 st,.int .i64 ow,.string nm,.int .i64 dl] 161)).heap.size:=by have:=Hx.out.size;simp;omega
  clear hinv
  go_wp2_with (at_builtin;refine Vf _ rfl _ _ 131 rfl W0.heap.size 161 i0 _ 5 56 De hi hz0 hz1 hz2 rfl (by decide) _ out.length _ rfl (Hown.out.alloc _) (fun _=>True) _ 1 _ rfl hrl (by simp [Value.oneCell']) (by unfold maxLen;omega) (by omega) hbz ?_;intro v' w6 ha;obtain ⟨a3,c3',hv3⟩:=Vw ha.own;subst hv3)
  go_ret
  refine ⟨_,rfl,?_,?_⟩
  ·rw [← hinv2,J2,Zs]
   exact Zw0 ha.own hlow
  exact Hx0.out.trans ((Hx.out.alloc _).grown ha.grown fun k hk=>(Hown.out.lt k hk).1)
section
theorem Zxk {α:Type} (E:Enc α) (hz:E.z=1) (l:List α) {i:Nat} (hi:i < l.length) (x:α) (u:Value) (hu:E.cells [x]=[u]):E.cells (l.set i x)=(E.cells l).set i u:=by
 have e0:l=l.take i++([l[i]]++l.drop (i+1)):=by simp
 have e1:l.set i x=l.take i++([x]++l.drop (i+1)):=by
  rw [List.set_eq_take_append_cons_drop,if_pos hi];rfl
 have el:(E.cells (l.take i)).length=i:=by rw [E.len,hz,Zp];omega
 have ey:(E.cells [l[i]]).length=1:=by rw [E.len,hz];rfl
 obtain ⟨y,hy⟩:∃ y,E.cells [l[i]]=[y]:=List.length_eq_one_iff.1 ey
 have e2:E.cells l=E.cells (l.take i)++([y]++E.cells (l.drop (i+1))):=by
  rw [← hy,← E.app,← E.app,← e0]
 rw [e1,E.app,E.app,hu,e2,List.set_append,if_neg (by omega),el]
 simp
section
variable {α:Type} {E:Enc α} {w:World} {B g n c:Nat} {l:List α}
theorem Own.put (h:Own E w B (.slice (some ⟨g,0,none⟩) n c) l) (hz:E.z=1) {i:Nat} (hi:i < l.length) (x:α) {u:Value} (hu:E.cells [x]=[u]) :
 Own E (w.setCell ⟨g,i,none⟩ u) B (.slice (some ⟨g,0,none⟩) n c) (l.set i x):=by
 obtain ⟨h1,h2⟩:=h
 refine ⟨by rw [E.len],?_⟩
 rcases h2 with ⟨h2,_⟩ | ⟨g',cap,cur,he,hb,hg,hn,hm,hs,ht⟩
 ·simp at h2
 simp only [Ye,Yd,Addr.mk.injEq,true_and,and_true] at he
 obtain ⟨rfl,he2,rfl⟩:=he
 refine .inr ⟨g,c,cur.setIfInBounds i u,?_,hb,?_,?_,hm,by simpa using hs,?_⟩
 ·rw [Zf,← he2]
 ·simp [World.setCell,Array.getElem?_modify,hg]
 ·rw [Zf];exact hn
 rw [Zxk E hz l hi x u hu,← ht,Zf]
 simp [List.take_set]
theorem Own.some_ {v:Value} (h:Own E w B v l) (hl:0 < l.length):∃ g c,v=.slice (some ⟨g,0,none⟩) l.length c∧B≤g∧g < w.heap.size∧l.length≤c∧c≤maxLen:=by
 obtain ⟨h1,h2⟩:=h
 rcases h2 with ⟨_,h2⟩ | ⟨g',cap,cur,he,hb,hg,hn,hm,hs,ht⟩
 ·omega
 exact ⟨g',cap,he,hb,(Array.getElem?_eq_some_iff.1 hg).1,hn,hm⟩
theorem Own.at_ (h:Own E w B (.slice (some ⟨g,0,none⟩) n c) l) {j:Nat} {u:Value} (hu:(E.cells l)[j]?=some u):w.cell? ⟨g,j,none⟩=some u:=by
 have:=h.cells (g:=g) rfl j u hu
 rw [K4] at this
 exact this
theorem Own.blk (h:Own E w B (.slice (some ⟨g,0,none⟩) n c) l):B≤g∧g < w.heap.size:=h.lt g rfl
theorem Own.thaw (h:Own E w B (.slice (some ⟨g,0,none⟩) n c) l) (j:Nat):w.frozen? ⟨g,j,none⟩=false:=by
 rcases h.2 with ⟨h2,_⟩ | ⟨g',cap,cur,he,hb,hg,hn,hm,hs,ht⟩
 ·simp at h2
 simp only [Ye,Yd,Addr.mk.injEq,true_and,and_true] at he
 obtain ⟨rfl,he2,rfl⟩:=he
 simp [World.frozen?,hg]
theorem Tv {w:World} {p q:Addr} (u:Value) (h:q.block≠p.block):(w.setCell p u).cell? q=w.cell? q:=World.cell?_of_block (Below.heap_setCell w p u q.block h)
end
theorem RdE.take {α:Type} {E:Enc α} {w:World} {S:Nat→Prop} {A:Option Addr} {n c:Nat} {l:List α} (h:RdE E w S (.slice A n c) l) (hz:E.z=1) {i:Nat} (hi:i≤l.length):RdE E w S (.slice A i c) (l.take i):=by
 have ecl:E.cells (l.take i)=(E.cells l).take i:=by
  have e:E.cells l=E.cells (l.take i)++E.cells (l.drop i):=by rw [← E.app,List.take_append_drop]
  have el:(E.cells (l.take i)).length=i:=by rw [E.len,hz,Zp];omega
  conv=>rhs;rw [e]
  exact (List.take_left' el).symm
 have hl:(l.take i).length=i:=by rw [Zp];omega
 unfold RdE at h ⊢
 rw [ecl,hl]
 obtain ⟨h1,A',c',hv,h2,h3,h4⟩:=h
 cases hv
 rw [hz] at h1
 refine ⟨by rw [Zp,h1,hz];omega,A,c,rfl,by omega,h3,fun h0=>?_⟩
 obtain ⟨g,o,e,hS,hg,hc⟩:=h4 (by omega)
 refine ⟨g,o,e,hS,hg,fun j u hu=>hc j u ?_⟩
 rw [Yy] at hu
 split at hu
 ·exact hu
 simp at hu
theorem RdE.drop {α:Type} {E:Enc α} {w:World} {S:Nat→Prop} {g o n c:Nat} {l:List α} (h:RdE E w S (.slice (some ⟨g,o,none⟩) n c) l) (hz:E.z=1) {i m:Nat} (hi:i≤l.length) (hm:m=l.length - i) {A2:Option Addr} {c2:Nat} (hA:0 < m→A2=some ⟨g,o+i,none⟩) (hc1:m≤c2) (hc2:c2≤maxLen):RdE E w S (.slice A2 m c2) (l.drop i):=by
 have ecl:E.cells (l.drop i)=(E.cells l).drop i:=by
  have e:E.cells l=E.cells (l.take i)++E.cells (l.drop i):=by rw [← E.app,List.take_append_drop]
  have el:(E.cells (l.take i)).length=i:=by rw [E.len,hz,Zp];omega
  conv=>rhs;rw [e]
  exact (List.drop_left' el).symm
 have hl:(l.drop i).length=m:=by rw [Z8,hm]
 unfold RdE at h ⊢
 rw [ecl,hl]
 obtain ⟨h1,A',c',hv,h2,h3,h4⟩:=h
 cases hv
 rw [hz] at h1
 refine ⟨by rw [Z8,h1,hm,Nat.mul_one,hz,Nat.mul_one],A2,c2,rfl,hc1,hc2,fun h0=>?_⟩
 obtain rfl:=hA h0
 have h00:0 < l.length:=by omega
 obtain ⟨g',o',e,hS,hg,hc⟩:=h4 h00
 cases e
 refine ⟨g,o+i,rfl,hS,hg,fun j u hu=>?_⟩
 rw [Yz] at hu
 have:=hc (i+j) u hu
 rwa [← Nat.add_assoc] at this
theorem ints_at {l:List Int} {j:Nat} {x:Int} (h:l[j]?=some x):(Xe.cells l)[j]?=some (.int .i64 x):=by
 show (l.map (Value.int .i64))[j]?=_
 rw [Zn,h];rfl
end
theorem Qa:(Tryz.prog.info? 4).map (fun i=>(i.zero,i.size,i.bytes))=some (some (.bool false),1,1):=by kernel_rfl
theorem On:Tryz.prog.underlying 117=some (.slice 4):=by kernel_rfl
noncomputable def Nn:Enc Bool where
 ty:=4
 sl:=117
 z:=1
 bytes:=1
 cells l:=l.map Value.bool
 app a b:=Z9
 len l:=by simp
 one l:=Ub _ (fun _=>rfl) l
 und:=On
 i:=Classical.choose (info_parts Qa)
 zero:=.bool false
 info:=(Yp (info_parts Qa)).1
 hz:=(Yp (info_parts Qa)).2.1
 hs:=(Yp (info_parts Qa)).2.2.1
 hb:=(Yp (info_parts Qa)).2.2.2
 hc:=rfl
 pos:=by omega
theorem Dv {l:List Bool} {j:Nat} {x:Bool} (h:l[j]?=some x):(Nn.cells l)[j]?=some (.bool x):=by
 show (l.map Value.bool)[j]?=_
 rw [Zn,h];rfl
structure Sl where
 a:Option Addr
 n:Nat
 c:Nat
def Sl.v (s:Sl):Value:=.slice s.a s.n s.c
theorem Kd:(Tryz.prog.info? 22).map (fun i=>(i.zero,i.size,i.bytes))=some (some (.slice none 0 0),1,24):=by kernel_rfl
theorem Zu5:Tryz.prog.underlying 268=some (.slice 22):=by kernel_rfl
noncomputable def Zp9:Enc Sl where
 ty:=22
 sl:=268
 z:=1
 bytes:=24
 cells l:=l.map Sl.v
 app a b:=Z9
 len l:=by simp
 one l:=Ub _ (fun _=>rfl) l
 und:=Zu5
 i:=Classical.choose (info_parts Kd)
 zero:=.slice none 0 0
 info:=(Yp (info_parts Kd)).1
 hz:=(Yp (info_parts Kd)).2.1
 hs:=(Yp (info_parts Kd)).2.2.1
 hb:=(Yp (info_parts Kd)).2.2.2
 hc:=rfl
 pos:=by omega
theorem Ep {l:List Sl} {j:Nat} {x:Sl} (h:l[j]?=some x):(Zp9.cells l)[j]?=some x.v:=by
 show (l.map Sl.v)[j]?=_
 rw [Zn,h];rfl
def Je (w:World) (S:Nat→Prop) (vs:List Sl) (ls:List (List Int)):Prop:=vs.length=ls.length∧∀ (j:Nat) (s:Sl) (x:List Int),vs[j]?=some s→ls[j]?=some x→Xz w S s.v x
theorem Je.ext {w w':World} {S:Nat→Prop} {vs:List Sl} {ls:List (List Int)} (h:Je w S vs ls) (x:Ext w w'):Je w' S vs ls:=⟨h.1,fun j s y h1 h2=>(h.2 j s y h1 h2).ext x⟩
theorem Je.chg {w w':World} {S T:Nat→Prop} {vs:List Sl} {ls:List (List Int)} (h:Je w S vs ls) (c:Chg T w w') (hd:∀ k,S k→¬ T k):Je w' S vs ls:=⟨h.1,fun j s y h1 h2=>(h.2 j s y h1 h2).chg c hd⟩
theorem Je.mono {w:World} {S T:Nat→Prop} {vs:List Sl} {ls:List (List Int)} (h:Je w S vs ls) (hd:∀ k,S k→k < w.heap.size→T k):Je w T vs ls:=⟨h.1,fun j s y h1 h2=>Rd.mono (h.2 j s y h1 h2) hd⟩
def Zz1 (w:World) (v:Value) (ls:List (List Int)):Prop:=∃ vs:List Sl,RdE Zp9 w (fun _=>True) v vs∧Je w (fun _=>True) vs ls
theorem Zz1.ext {w w':World} {v:Value} {ls:List (List Int)} (h:Zz1 w v ls) (x:Ext w w'):Zz1 w' v ls:=by
 obtain ⟨vs,h1,h2⟩:=h
 exact ⟨vs,h1.ext x,h2.ext x⟩
theorem Zz1.shape {w:World} {v:Value} {ls:List (List Int)} (h:Zz1 w v ls):∃ A c,v=.slice A ls.length c∧ls.length≤c∧c≤maxLen:=by
 obtain ⟨vs,h1,h2,_⟩:=h
 obtain ⟨A,c,e,h3,h4⟩:=h1.shape
 rw [h2] at e h3
 exact ⟨A,c,e,h3,h4⟩
theorem Zz1.get {w:World} {v:Value} {ls:List (List Int)} (h:Zz1 w v ls) {j:Nat} {x:List Int} (hj:ls[j]?=some x) :
 ∃ g o c u,v=.slice (some ⟨g,o,none⟩) ls.length c∧ls.length≤c∧c≤maxLen∧g < w.heap.size∧w.cell? ⟨g,o+j,none⟩=some u∧Xz w (fun _=>True) u x:=by
 obtain ⟨vs,h1,h2,h3⟩:=h
 have hjl:=(Zr.1 hj).1
 obtain ⟨g,o,c,e,k1,k2,k3,k4,k5⟩:=Rd.at_ h1 (show j < vs.length by omega)
 have hs:vs[j]?=some vs[j]:=Zz (by omega)
 rw [h2] at e k1
 exact ⟨g,o,c,_,e,k1,k2,k4,k5 j _ (Ep hs),h3 j _ _ hs hj⟩
def Ln (w:World) (B:Nat) (v:Value) (vs:List Sl) (ls:List (List Int)):Prop:=Own Zp9 w B v vs∧Je w (fun k=>v.ownBlock≠some k) vs ls
theorem Ln.ext {w w':World} {B:Nat} {v:Value} {vs:List Sl} {ls:List (List Int)} (h:Ln w B v vs ls) (x:Ext w w'):Ln w' B v vs ls:=⟨h.1.ext x,h.2.ext x⟩
theorem Ln.at_ {w:World} {B:Nat} {v:Value} {vs:List Sl} {ls:List (List Int)} (h:Ln w B v vs ls):Zz1 w v ls:=⟨vs,Rd.mono h.1.rd fun _ _ _=>trivial,h.2.mono fun _ _ _=>trivial⟩
theorem Zrq {w:World} {B z g n c m:Nat} {t:TypeId} {xs:List Value} (h:w.ownsRow B t z (.slice (some ⟨g,0,none⟩) n c) m xs) (j:Nat) (u:Value):(w.setCell ⟨g,j,none⟩ u).ownsRow B t z (.slice (some ⟨g,0,none⟩) n c) m (xs.set j u):=by
 obtain ⟨h1,h2⟩:=h
 refine ⟨by rw [Zf];exact h1,?_⟩
 rcases h2 with ⟨h2,_⟩ | ⟨g',cap,cur,he,hb,hg,hn,hm,hs,ht⟩
 ·simp at h2
 simp only [Ye,Yd,Addr.mk.injEq,true_and,and_true] at he
 obtain ⟨rfl,he2,rfl⟩:=he
 refine .inr ⟨g,c,cur.setIfInBounds j u,?_,hb,?_,hn,hm,by simpa using hs,?_⟩
 ·rw [← he2]
 ·simp [World.setCell,Array.getElem?_modify,hg]
 rw [← ht];simp [List.take_set]
structure Qq where
 cl:Int
 st:Int
 text:ByteArray
 op:Int
 ttl:Int
 lv:Value
 ns:List Nm
 rv:Value
 rs:List Rc
 ans:Zy1
 i:Int
def Wk (r:Zy1):List Value:=[.int .i64 r.e,.int .i64 r.at_,.string r.nm,.int .i64 r.rc.st,.int .i64 r.rc.ow,.string r.rc.nm,.int .i64 r.rc.dl,.int .i64 r.tick]
def machC (T:Tbl) (m:Qq):List Value:=[T.catV,T.clsV,T.joiV,T.bidV,T.scrV,T.staV,T.ignV,T.extV,T.mapV,T.decV,T.excV,T.proV,.int .i64 m.cl,.int .i64 m.st,.string m.text,.int .i64 m.op,.int .i64 m.ttl,m.lv,m.rv,.int .i64 m.ans.e,.int .i64 m.ans.at_,.string m.ans.nm,.int .i64 m.ans.rc.st,.int .i64 m.ans.rc.ow,.string m.ans.rc.nm,.int .i64 m.ans.rc.dl,.int .i64 m.ans.tick,.int .i64 m.i]
structure MOk (m:Qq):Prop where
 s0:0≤m.st
 s1:m.st≤7
 c0:0≤m.cl
 c1:m.cl < 64
 n0:2≤m.st→m.st≤6→1≤m.ns.length∧m.ns.length≤16∧0≤m.i∧m.i < m.ns.length
 i4:m.st=4→m.i=0
 r3:m.st=3→(m.rs.length:Int)=m.i
 r4:4≤m.st→m.st≤5→m.rs.length=m.ns.length
 e2:1≤m.st→m.st≤2→m.rs=[]∧(m.st=1→m.i=0)
structure Wo (w:World) (S:Nat→Prop) (T:Tbl) (b:Nat) (m:Qq):Prop where
 cells:Xs w b (machC T m)
 ns:Wq w S m.lv m.ns
 rs:Lj w S m.rv m.rs
theorem Wo.chg {S U:Nat→Prop} {w w':World} {T:Tbl} {b:Nat} {m:Qq} (h:Wo w S T b m) (c:Chg U w w') (hb:¬ U b) (hS:∀ k,S k→¬ U k):Wo w' S T b m :=
 ⟨h.cells.chg c hb,Rd.chg h.ns c hS,Rd.chg h.rs c hS⟩
structure Shr where
 cl:Int
 cp:Int
 clock:Int
 sum:Int
 kv:Value
 ks:List Kp
 rv:Value
 rs:List Kp
def Zp8 (x:Shr):List Value:=[.int .i64 x.cl,.int .i64 x.cp,.int .i64 x.clock,.int .i64 x.sum,x.kv,x.rv]
structure V3 (w:World) (S:Nat→Prop) (b:Nat) (x:Shr):Prop where
 cells:Xs w b (Zp8 x)
 ks:KeptAt w S x.kv x.ks
 rs:KeptAt w S x.rv x.rs
theorem V3.chg {S U:Nat→Prop} {w w':World} {b:Nat} {x:Shr} (h:V3 w S b x) (c:Chg U w w') (hb:¬ U b) (hS:∀ k,S k→¬ U k):V3 w' S b x :=
 ⟨h.cells.chg c hb,Rd.chg h.ks c hS,Rd.chg h.rs c hS⟩
structure XOk (t:Nat) (x:Shr):Prop where
 c0:0≤x.clock
 c1:x.clock≤1073741824
 m0 : -(16 * t:Int)≤x.sum
 m1:x.sum≤16 * t
 k:x.ks.length≤t
 r:x.rs.length≤t
theorem XOk.up {t:Nat} {x:Shr} (h:XOk t x):XOk (t+1) x:=⟨h.c0,h.c1,by have:=h.m0;omega,by have:=h.m1;omega,by have:=h.k;omega,by have:=h.r;omega⟩
def Zvd (w:World) (e:Ending) (w':World):Prop:=∃ t:Nat,e=.returned (.int .i64 (t:Int))∧1≤t∧t≤26∧w=w'
theorem Zop (x:Int) (h0:1≤x) (h1:x≤26) (w:World):Zvd w (.returned (.int .i64 x)) w:=⟨x.toNat,by rw [Int.toNat_of_nonneg (by omega)],by omega,by omega,rfl⟩
theorem Zvz (j b:Int) (w:World):Calls Tryz.prog 259 #[.int .i64 j,.int .i64 b] w (Zvd w):=by
 go_enter Tryz.func259,Tryz.ntmps259
 go_wp2_with fail
 all_goals
  go_ret
  exact Zop _ (by omega) (by omega) _
def Zrw (w:World) (e:Ending) (w':World):Prop:=∃ s:ByteArray,e=.returned (.string s)∧s.size=1∧w=w'
theorem I9 (n:Nat) (h:n < 36) (w:World):Calls Tryz.prog 260 #[.int .i64 (n:Int)] w (Zrw w):=by
 have h1:IntKind.i64.wrap ((n:Int)+1)=((n+1:Nat):Int):=Yq _ (by omega)
 have h2:(0:Int)≤(n:Int):=by omega
 have h3:(n:Int)≤((n+1:Nat):Int):=by omega
 have h4:((n+1:Nat):Int)≤36:=by omega
 go_enter Tryz.func260,Tryz.ntmps260
 go_wp2_with fail
 go_ret
 exact ⟨_,rfl,by rw [ByteArray.size_extract];show min (n+1) 36 - n=1;omega,rfl⟩
def Zsg (n:Nat) (w:World) (e:Ending) (w':World):Prop:=∃ s:ByteArray,e=.returned (.string s)∧s.size≤n+1∧Ext w w'
theorem Zss (n:Nat) (h:n≤1000000000) (b:Int) (w:World):Calls Tryz.prog 244 #[.int .i64 (n:Int),.int .i64 b] w (Zsg n w):=by
 go_enter Tryz.func244,Tryz.ntmps244
 go_wp2_with fail
 go_loopw [0,5,6] (fun v s j wr=>∃ (m:Nat) (u:ByteArray) (z:Int),v=.int .i64 (m:Int)∧m≤1000000000∧u.size+m≤n∧s=.string u∧j=.int .i64 z∧Ext w wr) (fun v _ _ _=>(intOf v).toNat)
 case atStart=>exact ⟨n,⟨#[]⟩,0,rfl,h,by show 0+n≤n;omega,rfl,rfl,Yl _⟩
 obtain ⟨m,u,z,rfl,hm,hu,rfl,rfl,hx⟩:=hrel
 have Hx:=Yw hx
 clear hx
 have A1:=fun (w1:World)=>Zvz z b w1
 have hum:u.size≤maxLen:=by unfold maxLen;omega
 go_wp2_with fail
 refine (A1 _).mono ?_
 rintro e w1 ⟨t,rfl,ht1,ht2,rfl⟩
 by_cases hlt:m < t
 ·have d1:decide ((m:Int) < (t:Int))=true:=Yf (by omega)
  go_wp2_with fail
  refine (I9 m (by omega) _).mono ?_
  rintro e w1 ⟨s,rfl,hs,rfl⟩
  have hus:(u++s).size≤maxLen:=by simp;unfold maxLen;omega
  go_wp2_with fail
  go_ret
  exact ⟨_,rfl,by simp;omega,Hx.out⟩
 have d1:decide ((m:Int) < (t:Int))=false:=Yg (by omega)
 have q1:IntKind.i64.wrap ((m:Int) - (t:Int))=((m - t:Nat):Int):=by rw [Yq _ (by omega)];omega
 have q2:IntKind.i64.wrap (36 - (t:Int))=((36 - t:Nat):Int):=by rw [Yq _ (by omega)];omega
 have q3:(((36 - t:Nat):Int) == 0)=false:=by simp;omega
 have q4:((m - t:Nat):Int).tmod ((36 - t:Nat):Int)=(((m - t) % (36 - t):Nat):Int):=rfl
 have hmod:(m - t) % (36 - t) < 36 - t:=Nat.mod_lt _ (by omega)
 obtain ⟨r,hr⟩:∃ r,(m - t) % (36 - t)=r:=⟨_,rfl⟩
 rw [hr] at q4 hmod
 clear hr
 have q5:IntKind.i64.wrap ((t:Int)+(r:Int))=((t+r:Nat):Int):=by rw [Yq _ (by omega)];omega
 have q6:((m - t:Nat):Int).tdiv ((36 - t:Nat):Int)=(((m - t) / (36 - t):Nat):Int):=rfl
 have hdiv:(m - t) / (36 - t)≤m - t:=Nat.div_le_self _ _
 obtain ⟨q,hq⟩:∃ q,(m - t) / (36 - t)=q:=⟨_,rfl⟩
 rw [hq] at q6 hdiv
 clear hq
 have q7:IntKind.i64.wrap (q:Int)=(q:Int):=Yq _ (by omega)
 have q8:(36 - t:Nat)≠0:=by omega
 go_wp2_with fail
 refine (I9 (t+r) (by omega) _).mono ?_
 rintro e w1 ⟨s,rfl,hs,rfl⟩
 have hus:(u++s).size≤maxLen:=by simp;unfold maxLen;omega
 go_wp2_with fail
 go_roundw
 case rel=>exact ⟨q,_,_,rfl,by omega,by simp;omega,rfl,rfl,Hx.out⟩
 case measure=>(simp [intOf];omega)
theorem Fk (d n:Nat) (hd:d≤100000000000) (hn:1≤n) (hn2:n≤4096) (b:Bool) (w:World):Calls Tryz.prog 245 #[.int .i64 (d:Int),.int .i64 (n:Int),.bool b] w (Ka w):=by
 have d1:decide ((d:Int) < 0)=false:=Yg (by omega)
 have d2:decide ((1099511627776:Int) < (d:Int))=false:=Yg (by omega)
 have d3:decide ((n:Int) < 1)=false:=Yg (by omega)
 have d4:decide ((4096:Int) < (n:Int))=false:=Yg (by omega)
 have d5:((n:Int) == 0)=false:=by simp;omega
 have d6:n≠0:=by omega
 cases b
 ·have p2:(d:Int).tdiv 2=((d / 2:Nat):Int):=rfl
  obtain ⟨m,hm⟩:∃ m,d / 2=m:=⟨_,rfl⟩
  rw [hm] at p2
  have hmd:m≤100000000000:=by omega
  clear hm
  have p4:IntKind.i64.wrap (m:Int)=(m:Int):=Yq _ (by omega)
  have p5:(m:Int).tdiv (n:Int)=((m / n:Nat):Int):=rfl
  have hq:=Nat.div_le_self m n
  obtain ⟨q,hqe⟩:∃ q,m / n=q:=⟨_,rfl⟩
  rw [hqe] at p5 hq
  clear hqe
  have p6:IntKind.i64.wrap (q:Int)=(q:Int):=Yq _ (by omega)
  have p7:IntKind.i64.wrap ((m:Int)+(q:Int))=((m+q:Nat):Int):=by rw [Yq _ (by omega)];omega
  go_enter Tryz.func245,Tryz.ntmps245
  go_wp2_with fail
  go_loopw [0,7] (fun v k wr=>∃ (a:Nat) (z:Int),v=.int .i64 (a:Int)∧a≤200000000000∧k=.int .i64 z∧Ext w wr) (fun v _ _=>(intOf v).toNat)
  case atStart=>exact ⟨m+q,0,rfl,by omega,rfl,Yl _⟩
  obtain ⟨a,z,rfl,ha,rfl,hx⟩:=hrel
  by_cases hlt:455 < a
  ·have e1:decide ((455:Int) < (a:Int))=true:=Yf (by omega)
   have e2:(a:Int).tdiv 35=((a / 35:Nat):Int):=rfl
   have e3:IntKind.i64.wrap ((a / 35:Nat):Int)=((a / 35:Nat):Int):=Yq _ (by omega)
   go_wp2_with fail
   go_roundw
   case rel=>exact ⟨a / 35,_,rfl,by omega,rfl,hx⟩
   case measure=>(simp only [intOf];omega)
  have e1:decide ((455:Int) < (a:Int))=false:=Yg (by omega)
  have e2:IntKind.i64.wrap ((a:Int)+38)=((a+38:Nat):Int):=by rw [Yq _ (by omega)];omega
  have e3:(((a+38:Nat):Int) == 0)=false:=by simp;omega
  have e4:a+38≠0:=by omega
  go_wp2_with fail
  go_ret
  exact ⟨_,rfl,hx⟩
 have p2:(d:Int).tdiv 700=((d / 700:Nat):Int):=rfl
 obtain ⟨m,hm⟩:∃ m,d / 700=m:=⟨_,rfl⟩
 rw [hm] at p2
 have hmd:m≤100000000000:=by omega
 clear hm
 have p4:IntKind.i64.wrap (m:Int)=(m:Int):=Yq _ (by omega)
 have p5:(m:Int).tdiv (n:Int)=((m / n:Nat):Int):=rfl
 have hq:=Nat.div_le_self m n
 obtain ⟨q,hqe⟩:∃ q,m / n=q:=⟨_,rfl⟩
 rw [hqe] at p5 hq
 clear hqe
 have p6:IntKind.i64.wrap (q:Int)=(q:Int):=Yq _ (by omega)
 have p7:IntKind.i64.wrap ((m:Int)+(q:Int))=((m+q:Nat):Int):=by rw [Yq _ (by omega)];omega
 go_enter Tryz.func245,Tryz.ntmps245
 go_wp2_with fail
 go_loopw [0,7] (fun v k wr=>∃ (a:Nat) (z:Int),v=.int .i64 (a:Int)∧a≤200000000000∧k=.int .i64 z∧Ext w wr) (fun v _ _=>(intOf v).toNat)
 case atStart=>exact ⟨m+q,0,rfl,by omega,rfl,Yl _⟩
 obtain ⟨a,z,rfl,ha,rfl,hx⟩:=hrel
 by_cases hlt:455 < a
 ·have e1:decide ((455:Int) < (a:Int))=true:=Yf (by omega)
  have e2:(a:Int).tdiv 35=((a / 35:Nat):Int):=rfl
  have e3:IntKind.i64.wrap ((a / 35:Nat):Int)=((a / 35:Nat):Int):=Yq _ (by omega)
  go_wp2_with fail
  go_roundw
  case rel=>exact ⟨a / 35,_,rfl,by omega,rfl,hx⟩
  case measure=>(simp only [intOf];omega)
 have e1:decide ((455:Int) < (a:Int))=false:=Yg (by omega)
 have e2:IntKind.i64.wrap ((a:Int)+38)=((a+38:Nat):Int):=by rw [Yq _ (by omega)];omega
 have e3:(((a+38:Nat):Int) == 0)=false:=by simp;omega
 have e4:a+38≠0:=by omega
 go_wp2_with fail
 go_ret
 exact ⟨_,rfl,hx⟩
def Gt (P:List Bool) (k:Nat):Nat:=(P.take k).count true
structure Zq2 (l:List Int) (P:List Bool) (i k:Nat):Prop where
 lt:k < i
 free:P[k]?=some false
 min:∀ j,j < i→P[j]?=some false→l.getD k 0≤l.getD j 0
 fst:∀ j,j < k→P[j]?=some false→l.getD k 0 < l.getD j 0
structure Zp6 (l:List Int) (P:List Bool) (n:Int) (i:Nat):Prop where
 len:P.length=l.length
 n0:128≤n
 low:∀ j,P[j]?=some false→n≤l.getD j 0
 cnt:i≤Gt P P.length
 tie:∀ j,P[j]?=some false→l.getD j 0=n→i≤Gt P j
theorem Oe (P:List Bool) {a b:Nat} (h:a≤b):Gt P a≤Gt P b:=by
 unfold Gt
 exact ((List.take_sublist_take_left h).count_le true)
theorem M9 (P:List Bool) (k:Nat):Gt P k≤P.length:=by
 unfold Gt
 exact Nat.le_trans List.count_le_length (by rw [Zp];omega)
theorem Q6 {P:List Bool} {k:Nat} {b:Bool} (h:P[k]?=some b):Gt P (k+1)=Gt P k+(if b then 1 else 0):=by
 unfold Gt
 rw [Za,h,List.count_append]
 cases b<;>simp
theorem Tn (P:List Bool) (a:Nat):∀ {k:Nat},k≤a→Gt (P.set a true) k=Gt P k:=by
 intro k hk
 unfold Gt
 rw [List.take_set_of_le hk]
theorem Fp {P:List Bool} {a:Nat} (h:P[a]?=some false):∀ {k:Nat},a < k→k≤P.length→Gt (P.set a true) k=Gt P k+1:=by
 intro k hk hkl
 induction k with
 | zero=>omega
 | succ k ih =>
  have hb:P[k]?=some P[k]:=Zz (by omega)
  rw [Q6 hb]
  by_cases e:k=a
  ·subst e
   have:P[k]=false:=by rw [h] at hb;exact (Option.some.inj hb).symm
   rw [Q6 (P:=P.set k true) (b:=true) (by rw [Yx,if_pos rfl,if_pos (by omega)]),Tn P k (Yo _),this]
   simp
  rw [Q6 (P:=P.set a true) (b:=P[k]) (by rw [Yx,if_neg (by omega)];exact hb),ih (by omega) (by omega)]
  omega
theorem Oz {P:List Bool} {a j:Nat} (h:(P.set a true)[j]?=some false):j≠a∧P[j]?=some false:=by
 rw [Yx] at h
 split at h
 ·split at h<;>cases h
 rename_i hne;exact ⟨fun e=>hne e.symm,h⟩
def Pq (l:List Int) (P:List Bool) (n:Int) (i k:Nat):Int:=(l.getD k 0 - n) * ((Gt P P.length:Int)+1)+(Gt P k:Int) - (i:Int)
theorem Ztn {l:List Int} {P:List Bool} {n:Int} {i k:Nat} (h:Zp6 l P n i) (b:Zq2 l P l.length k):0≤Pq l P n i k:=by
 unfold Pq
 have h1:=h.low k b.free
 have h2:=h.cnt
 rcases Int.lt_or_eq_of_le h1 with h3|h3
 ·have:((Gt P P.length:Int)+1)≤(l.getD k 0 - n) * ((Gt P P.length:Int)+1):=by
   have:=Int.mul_le_mul_of_nonneg_right (show (1:Int)≤l.getD k 0 - n by omega) (show (0:Int)≤(Gt P P.length:Int)+1 by omega)
   rw [Int.one_mul] at this;exact this
  omega
 have h4:=h.tie k b.free h3.symm
 rw [h3,Int.sub_self,Int.zero_mul]
 omega
theorem Zsm {l:List Int} {P:List Bool} {n:Int} {i k:Nat} (h:Zp6 l P n i) (hs:∀ c∈l,0≤c∧c≤1114111) (b:Zq2 l P l.length k) (hl:l.length≤256):Pq l P n i k≤300000000:=by
 unfold Pq
 have h1:=h.n0
 have h2:Gt P P.length≤256:=by have:=M9 P P.length;rw [h.len] at this ⊢;omega
 have h3:Gt P k≤256:=by have:=M9 P k;rw [h.len] at this;omega
 have h4:l.getD k 0≤1114111:=by
  rw [List.getD_eq_getElem?_getD,Zz b.lt]
  exact (hs _ (List.getElem_mem b.lt)).2
 have h5:(l.getD k 0 - n) * ((Gt P P.length:Int)+1)≤1114111 * 257:=by
  have h0:=h.low k b.free
  exact Int.mul_le_mul (by omega) (by omega) (by omega) (by omega)
 omega
theorem Zvc {l:List Int} {P:List Bool} {n:Int} {i k:Nat} (h:Zp6 l P n i) (b:Zq2 l P l.length k):Zp6 l (P.set k true) (l.getD k 0) (Gt P k+1):=by
 have hk:k < P.length:=by rw [h.len];exact b.lt
 refine ⟨by rw [Zf];exact h.len,Int.le_trans h.n0 (h.low k b.free),fun j hj=>?_,?_,fun j hj e=>?_⟩
 ·obtain ⟨_,hj⟩:=Oz hj
  exact b.min j (by rw [← h.len];exact (Zr.1 hj).1) hj
 ·rw [Zf,Fp b.free hk (Yo _)]
  have:=Oe P (Nat.le_of_lt hk)
  omega
 obtain ⟨hne,hj⟩:=Oz hj
 have hjl:=(Zr.1 hj).1
 rcases Nat.lt_or_ge j k with h1|h1
 ·have:=b.fst j h1 hj;omega
 rw [Fp b.free (by omega) (by omega)]
 have:=Oe P h1
 omega
def Pi (P:List Bool):Nat:=P.count false
theorem Da {P:List Bool} {k:Nat} (h:P[k]?=some false):Pi (P.set k true) < Pi P:=by
 unfold Pi
 obtain ⟨hk,e⟩:=Zr.1 h
 rw [List.count_set hk,e]
 have:0 < P.count false:=List.count_pos_iff.2 (by rw [← e];exact List.getElem_mem hk)
 simp;omega
theorem Zwa {w:World} {S:Nat→Prop} {v:Value} {P:List Bool} (h:RdE Nn w S v P) {j:Nat} {b:Bool} (hj:P[j]?=some b) :
 ∃ g o c,v=.slice (some ⟨g,o,none⟩) P.length c∧P.length≤c∧c≤maxLen∧S g∧g < w.heap.size∧w.cell? ⟨g,o+j,none⟩=some (.bool b):=by
 obtain ⟨g,o,c,h1,h2,h3,h4,h5,h6⟩:=Rd.at_ h (Zr.1 hj).1
 exact ⟨g,o,c,h1,h2,h3,h4,h5,h6 j _ (Dv hj)⟩
theorem Bf {l:List Int} {j:Nat} {x:Int} (h:l[j]?=some x):l.getD j 0=x:=by rw [List.getD_eq_getElem?_getD,h];rfl
def Found (l:List Int) (P:List Bool) (i:Nat) (a:Int):Prop:=(a = -1∧∀ j,j < i→P[j]?≠some false)∨∃ k:Nat,a=(k:Int)∧Zq2 l P i k
theorem Zzw {l:List Int} {P:List Bool} {i:Nat} {a:Int} (h:Found l P i a) (hb:P[i]?=some true):Found l P (i+1) a:=by
 rcases h with ⟨h1,h2⟩ | ⟨k,h1,h2⟩
 ·refine .inl ⟨h1,fun j hj=>?_⟩
  rcases Nat.lt_or_eq_of_le (Nat.lt_succ_iff.1 hj) with h|h
  ·exact h2 j h
  subst h;rw [hb];simp
 refine .inr ⟨k,h1,Nat.lt_succ_of_lt h2.lt,h2.free,fun j hj hf=>?_,h2.fst⟩
 rcases Nat.lt_or_eq_of_le (Nat.lt_succ_iff.1 hj) with h|h
 ·exact h2.min j h hf
 subst h;rw [hb] at hf;simp at hf
theorem Zy8 {l:List Int} {P:List Bool} {i:Nat} (h:∀ j,j < i→P[j]?≠some false) (hb:P[i]?=some false):Found l P (i+1) (i:Int) :=
 .inr ⟨i,rfl,Nat.lt_succ_self _,hb,fun j hj hf=>by
  rcases Nat.lt_or_eq_of_le (Nat.lt_succ_iff.1 hj) with h1|h1
  ·exact absurd hf (h j h1)
  subst h1;exact Int.le_refl _,fun j hj hf=>absurd hf (h j hj)⟩
theorem Zye {l:List Int} {P:List Bool} {i k:Nat} (h:Zq2 l P i k) (hx:¬ l.getD i 0 < l.getD k 0):Found l P (i+1) (k:Int) :=
 .inr ⟨k,rfl,Nat.lt_succ_of_lt h.lt,h.free,fun j hj hf=>by
  rcases Nat.lt_or_eq_of_le (Nat.lt_succ_iff.1 hj) with h1|h1
  ·exact h.min j h1 hf
  subst h1;omega,h.fst⟩
theorem Zzl {l:List Int} {P:List Bool} {i k:Nat} (h:Zq2 l P i k) (hb:P[i]?=some false) (hx:l.getD i 0 < l.getD k 0):Found l P (i+1) (i:Int) :=
 .inr ⟨i,rfl,Nat.lt_succ_self _,hb,fun j hj hf=>by
  rcases Nat.lt_or_eq_of_le (Nat.lt_succ_iff.1 hj) with h1|h1
  ·have:=h.min j h1 hf;omega
  subst h1;exact Int.le_refl _,fun j hj hf=>by have:=h.min j hj hf;omega⟩
def Zu0 (l:List Int) (P:List Bool) (w:World) (e:Ending) (w':World):Prop:=∃ a:Int,e=.returned (.int .i64 a)∧Found l P l.length a∧Ext w w'
theorem Zxc {S S':Nat→Prop} (v v':Value) (l:List Int) (P:List Bool) (w:World) (h:Xz w S v l) (h':RdE Nn w S' v' P) (hlp:P.length=l.length) (hl:l.length≤4096):Calls Tryz.prog 243 #[v,v'] w (Zu0 l P w):=by
 obtain ⟨A,C,rfl,hlCC,hCC⟩:=h.shape
 obtain ⟨n,hnn⟩:∃ n,(l).length=n:=⟨_,rfl⟩
 have Hnn:=Yw hnn
 have Hh:=Yw h
 unfold maxLen at hCC
 rw [hnn] at hlCC ⊢
 clear h hnn
 obtain ⟨B,D,rfl,hlD,hD⟩:=h'.shape
 rw [hlp,Hnn.out] at hlD ⊢
 have Hp:=Yw h'
 have Hlp:=Yw hlp
 unfold maxLen at hD
 rw [Hnn.out] at hl
 clear h' hlp
 go_enter Tryz.func243,Tryz.ntmps243
 go_wp2_with fail
 go_loopw [10,5] (fun o a wr=>∃ (i:Nat) (z:Int),i≤n∧o=.int .i64 (i:Int)∧a=.int .i64 z∧Found l P i z∧Ext w wr) (fun o _ _=>n - (intOf o).toNat)
 case atStart=>exact ⟨0,-1,by omega,rfl,rfl,.inl ⟨rfl,fun j hj=>by omega⟩,Yl _⟩
 obtain ⟨i,z,hi,rfl,rfl,hfo,hx⟩:=hrel
 have Hx:=Yw hx
 have Hfo:=Yw hfo
 clear hx hfo
 by_cases hlt:i < n
 ·have hd_i:decide ((i:Int) < (n:Int))=true:=Yf (by omega)
  have i0_i:(0:Int)≤(i:Int):=by omega
  have i1_i:(i:Int) < (n:Int):=by omega
  obtain ⟨x,hs_x⟩:∃ s,(l)[i]?=some s:=⟨(l)[i]'(by have:=Hnn.out;omega),Zz _⟩
  obtain ⟨g_x,o_x,c_x,hvv,_,_,_,hgl_x,a0_x⟩:=(Hh.out.ext Hx.out).get hs_x
  simp only [Ye] at hvv
  obtain ⟨rfl,-,rfl⟩:=hvv
  have Hs_x:=Yw hs_x
  clear hs_x
  obtain ⟨b,hb⟩:∃ b,P[i]?=some b:=⟨P[i]'(by rw [Hlp.out,Hnn.out];exact hlt),Zz _⟩
  obtain ⟨g2,o2,c2,hv2,_,_,_,hgl2,cb⟩:=Zwa (Hp.out.ext Hx.out) hb
  simp only [Ye] at hv2
  obtain ⟨rfl,-,rfl⟩:=hv2
  have Hb:=Yw hb
  clear hb
  cases b with
  | true =>
   go_wp2_with fail
   go_roundw
   case rel=>exact ⟨i+1,z,by omega,by go_num,rfl,Zzw Hfo.out Hb.out,Hx.out⟩
   case measure=>(simp [intOf];omega)
  | false =>
   rcases Hfo.out with ⟨rfl,hno⟩ | ⟨k,rfl,hbest⟩
   ·have Hno:=Yw hno
    clear hno Hfo
    go_wp2_with fail
    go_roundw
    case rel=>exact ⟨i+1,(i:Int),by omega,by go_num,rfl,Zy8 Hno.out Hb.out,Hx.out⟩
    case measure=>(simp [intOf];omega)
   have hk:=hbest.lt
   have Hbest:=Yw hbest
   clear hbest Hfo
   have k0:decide ((k:Int) < 0)=false:=Yg (by omega)
   have k1:(0:Int)≤(k:Int):=by omega
   have k2:(k:Int) < (n:Int):=by omega
   obtain ⟨y,hy⟩:∃ y,l[k]?=some y:=⟨l[k]'(by rw [Hnn.out];omega),Zz _⟩
   obtain ⟨g3,o3,c3,hv3,_,_,_,_,cy⟩:=(Hh.out.ext Hx.out).get hy
   simp only [Ye,Yd,Addr.mk.injEq,true_and,and_true] at hv3
   obtain ⟨⟨rfl,rfl⟩,-,rfl⟩:=hv3
   have Hy:=Yw hy
   clear hy
   cases q:decide (x < y)
   ·have Hq:=Yw (show ¬ l.getD i 0 < l.getD k 0 by rw [Bf Hs_x.out,Bf Hy.out];simpa using q)
    go_wp2_with fail
    go_roundw
    case rel=>exact ⟨i+1,(k:Int),by omega,by go_num,rfl,Zye Hbest.out Hq.out,Hx.out⟩
    case measure=>(simp [intOf];omega)
   have Hq:=Yw (show l.getD i 0 < l.getD k 0 by rw [Bf Hs_x.out,Bf Hy.out];simpa using q)
   go_wp2_with fail
   go_roundw
   case rel=>exact ⟨i+1,(i:Int),by omega,by go_num,rfl,Zzl Hbest.out Hb.out Hq.out,Hx.out⟩
   case measure=>(simp [intOf];omega)
 have hd_i:decide ((i:Int) < (n:Int))=false:=Yg (by omega)
 go_wp2_with fail
 go_ret
 refine ⟨z,rfl,?_,Hx.out⟩
 have:=Hfo.out
 rwa [show i=l.length by rw [Hnn.out];omega] at this
section
structure Zu8 where
 ty:TypeId
 z:Nat
 n:Nat
 cs:List Value
def Enc.row {α:Type} (E:Enc α) (l:List α):Zu8:=⟨E.ty,E.z,l.length,E.cells l⟩
def Zp7 (w:World) (B:Nat) (v:Value) (r:Zu8):Prop:=w.ownsRow B r.ty r.z v r.n r.cs
structure Jm (w:World) (B:Nat) (vs:List Value) (rs:List Zu8):Prop where
 own:∀ (i:Nat) v r,vs[i]?=some v→rs[i]?=some r→Zp7 w B v r
 len:vs.length=rs.length
 dis:∀ (i j:Nat) u v q,i≠j→vs[i]?=some u→vs[j]?=some v→u.ownBlock=some q→v.ownBlock≠some q
section
variable {w w1 w':World} {B:Nat} {vs:List Value} {rs:List Zu8}
theorem Zp7.lt {v:Value} {r:Zu8} (h:Zp7 w B v r):∀ q,v.ownBlock=some q→B≤q∧q < w.heap.size:=fun q hq=>by
 rcases h.2 with ⟨rfl,_⟩ | ⟨g,cap,cur,rfl,hb,hgg,_⟩
 ·simp [Value.ownBlock] at hq
 simp only [Value.ownBlock,Yd] at hq
 subst hq
 exact ⟨hb,(Array.getElem?_eq_some_iff.1 hgg).1⟩
theorem Zp7.chg {S:Nat→Prop} {v:Value} {r:Zu8} (h:Zp7 w B v r) (c:Chg S w w') (hS:∀ q,v.ownBlock=some q→¬ S q):Zp7 w' B v r:=by
 refine ⟨h.1,?_⟩
 rcases h.2 with hn | ⟨g,cap,cur,rfl,hb,hgg,rest⟩
 ·exact .inl hn
 refine .inr ⟨g,cap,cur,rfl,hb,?_,rest⟩
 rw [c.block g (Array.getElem?_eq_some_iff.1 hgg).1 (hS g rfl)]
 exact hgg
theorem Jm.chg {S:Nat→Prop} (h:Jm w B vs rs) (c:Chg S w w') (hS:∀ q,B≤q→¬ S q):Jm w' B vs rs :=
 ⟨fun i v r h1 h2=>(h.own i v r h1 h2).chg c fun q hq=>hS q ((h.own i v r h1 h2).lt q hq).1,h.len,h.dis⟩
theorem Jm.ext (h:Jm w B vs rs) (x:Ext w w'):Jm w' B vs rs:=h.chg (x.chg fun _=>False) fun _ _ e=>e
theorem Jm.grow {α:Type} {E:Enc α} {i:Nat} {v:Value} {l:List α} {A:Option Addr} {n c:Nat} (h:Jm w B vs rs) (x:Ext w w1) (hv:vs[i]?=some v) (hg:Grew E w1 B v l A n c w'):Jm w' B (vs.set i (.slice A n c)) (rs.set i (E.row l)):=by
 have h1:=h.ext x
 have hil:=(Zr.1 hv).1
 have hlt:∀ (j:Nat) u q,vs[j]?=some u→u.ownBlock=some q→q < w1.heap.size:=fun j u q hu hq=>by
  obtain ⟨r,hr⟩:∃ r,rs[j]?=some r:=⟨rs[j]'(by rw [← h.len];exact (Zr.1 hu).1),Zz _⟩
  exact ((h1.own j u r hu hr).lt q hq).2
 have hat:∀ q,(Value.slice A n c).ownBlock=some q→v.ownBlock=some q∨q=w1.heap.size:=fun q hq=>by
  rcases hg.at_ with h2|h2
  ·exact .inl (by rw [← h2];exact hq)
  rw [hq] at h2;exact .inr (Option.some.inj h2)
 refine ⟨fun j u r hu hr=>?_,by rw [Zf,Zf];exact h.len,fun j k u y q hjk hu hy hq he=>?_⟩
 ·by_cases e:i=j
  ·subst e
   rw [Zc hil] at hu
   rw [Zc (by rw [← h.len];exact hil)] at hr
   obtain rfl:=Option.some.inj hu
   obtain rfl:=Option.some.inj hr
   have ho:=hg.own
   have hl:=hg.len
   subst hl
   exact ho
  rw [Zb e] at hu hr
  exact (h1.own j u r hu hr).chg hg.chg fun q hq he=>h.dis i j v u q e hv hu he hq
 by_cases e:i=j
 ·subst e
  rw [Zc hil] at hu
  rw [Zb hjk] at hy
  obtain rfl:=Option.some.inj hu
  rcases hat q hq with h2|h2
  ·exact h.dis i k v y q hjk hv hy h2 he
  have:=hlt k y q hy he;omega
 rw [Zb e] at hu
 by_cases e2:i=k
 ·subst e2
  rw [Zc hil] at hy
  obtain rfl:=Option.some.inj hy
  rcases hat q he with h2|h2
  ·exact h.dis j i u v q hjk hu hv hq h2
  have:=hlt j u q hu hq;omega
 rw [Zb e2] at hy
 exact h.dis j k u y q hjk hu hy hq he
theorem Jm.get {α:Type} {E:Enc α} (h:Jm w B vs rs) {i:Nat} {v:Value} {l:List α} (hv:vs[i]?=some v) (hr:rs[i]?=some (E.row l)):Own E w B v l:=h.own i v _ hv hr
end
theorem Sm (w:World) (cs:Array Value) (t:TypeId) (z g:Nat) (hg:w.heap.size=g) (h:cs.size=z):Rd (w.alloc (.cells cs t)) (fun k=>g≤k) z (.slice (some ⟨g,0,none⟩) 1 1) 1 cs.toList:=by
 subst hg
 refine ⟨by simp [h],_,1,rfl,Yo _,by unfold maxLen;omega,fun _=>⟨w.heap.size,0,rfl,Yo _,by simp,fun j u hu=>?_⟩⟩
 rw [Nat.zero_add]
 show (w.alloc (.cells cs t)).cell? ⟨w.heap.size,j,none⟩=some u
 have h1:(w.alloc (.cells cs t)).heap[w.heap.size]?=some (.cells cs t):=heap_alloc_new w _
 simp only [World.cell?,h1]
 simpa using hu
theorem Dz (x:ByteArray) (t:TypeId) (w:World) (g:Nat) (hg:w.heap.size=g):RdE Wr (w.alloc (.cells #[.string x] t)) (fun k=>g≤k) (.slice (some ⟨g,0,none⟩) 1 1) [x]:=Sm w _ t 1 g hg rfl
theorem Dx (x:Int) (t:TypeId) (w:World) (g:Nat) (hg:w.heap.size=g):RdE Xe (w.alloc (.cells #[.int .i64 x] t)) (fun k=>g≤k) (.slice (some ⟨g,0,none⟩) 1 1) [x]:=Sm w _ t 1 g hg rfl
end
theorem Zur {S R:Nat→Prop} (va vb:Value) (a b:List Int) (w:World) (ha:Xz w S va a) (hb:Xz w R vb b):Calls Tryz.prog 26 #[va,vb] w fun e w'=>e=.returned (.bool (decide (a=b)))∧Ext w w':=by
 obtain ⟨A,C,rfl,hlC,hC⟩:=ha.shape
 obtain ⟨A2,C2,rfl,hlC2,hC2⟩:=hb.shape
 obtain ⟨n,hn⟩:∃ n,a.length=n:=⟨_,rfl⟩
 obtain ⟨m,hm⟩:∃ n,b.length=n:=⟨_,rfl⟩
 have HA:=Yw ha
 have HB:=Yw hb
 rw [hn] at hlC ⊢
 rw [hm] at hlC2 ⊢
 have Hn:=Yw hn
 have Hm:=Yw hm
 unfold maxLen at hC hC2
 clear ha hb hn hm
 by_cases hnm:n=m
 ·subst hnm
  go_enter Tryz.func26,Tryz.ntmps26
  go_wp2_with fail
  go_loopw [13] (fun o wr=>∃ i:Nat,i≤n∧o=.int .i64 (i:Int)∧a.take i=b.take i∧Ext w wr) (fun o _=>n - (intOf o).toNat)
  case atStart=>exact ⟨0,by omega,rfl,by simp,Yl _⟩
  obtain ⟨i,hi,rfl,htk,hx⟩:=hrel
  have Htk:=Yw htk
  have Hx:=Yw hx
  clear htk hx
  by_cases hlt:i < n
  ·have hd_i:decide ((i:Int) < (n:Int))=true:=Yf (by omega)
   have i0_i:(0:Int)≤(i:Int):=by omega
   have i1_i:(i:Int) < (n:Int):=by omega
   obtain ⟨x,hs_x⟩:∃ s,(a)[i]?=some s:=⟨(a)[i]'(by have:=Hn.out;omega),Zz _⟩
   obtain ⟨g_x,o_x,c_x,hvv,_,_,_,hgl_x,a0_x⟩:=(HA.out.ext Hx.out).get hs_x
   simp only [Ye] at hvv
   obtain ⟨rfl,-,rfl⟩:=hvv
   have Hs_x:=Yw hs_x
   clear hs_x
   obtain ⟨y,hs_y⟩:∃ s,(b)[i]?=some s:=⟨(b)[i]'(by have:=Hm.out;omega),Zz _⟩
   obtain ⟨g_y,o_y,c_y,hvv,_,_,_,hgl_y,a0_y⟩:=(HB.out.ext Hx.out).get hs_y
   simp only [Ye] at hvv
   obtain ⟨rfl,-,rfl⟩:=hvv
   have Hs_y:=Yw hs_y
   clear hs_y
   have m1:=lat a0_x
   have m2:=lat a0_y
   have e1:=Wz Hs_x.out
   have e2:=Wz Hs_y.out
   cases hxy:(x == y)
   ·have h1:(!(x == y))=true:=by rw [hxy];rfl
    have h2:(x != y)=true:=h1
    have h3:¬ x=y:=by simpa using hxy
    have Hno:=Yw (show decide (a=b)=false by
     rw [decide_eq_false_iff_not]
     intro e
     have h4:=Hs_x.out
     rw [e,Hs_y.out] at h4
     exact h3 (Option.some.inj h4).symm)
    clear h3 e1 e2 a0_x a0_y
    go_wp2_with fail
    have hun:=Yb
    refine Y0 (by kernel_rfl) (by kernel_rfl) ?_
    repeat ((with_reducible refine Yv ?_);intro K hK;go_simp;(with_reducible refine hK _ ?_);clear hK K)
    (with_reducible refine Yu ?_)
    intro w9 hy9
    clear hun
    try simp only [Yc]
    go_wp2_with fail
    go_ret
    exact ⟨by rw [Hno.out];rfl,Hx.out.trans hy9⟩
   have h1:(!(x == y))=false:=by rw [hxy];rfl
   have h2:(x != y)=false:=h1
   have h3:x=y:=by simpa using hxy
   have Hyes:=Yw (show a.take (i+1)=b.take (i+1) by rw [e1,e2,Htk.out,h3])
   clear h3 e1 e2 a0_x a0_y
   go_wp2_with fail
   have hun:=Yb
   refine Y0 (by kernel_rfl) (by kernel_rfl) ?_
   repeat ((with_reducible refine Yv ?_);intro K hK;go_simp;(with_reducible refine hK _ ?_);clear hK K)
   (with_reducible refine Yu ?_)
   intro w9 hy9
   clear hun
   try simp only [Yc]
   go_wp2_with fail
   go_roundw
   case rel=>exact ⟨i+1,by omega,by go_num,Hyes.out,Hx.out.trans hy9⟩
   case measure=>(simp [intOf];omega)
  have hd_i:decide ((i:Int) < (n:Int))=false:=Yg (by omega)
  go_wp2_with fail
  go_ret
  refine ⟨?_,Hx.out⟩
  have h1:=Htk.out
  rw [Zm (by rw [Hn.out];omega),Zm (by rw [Hm.out];omega)] at h1
  simp [h1]
 have d1:(!((n:Int) == (m:Int)))=true:=by simp;omega
 have d2:((n:Int) != (m:Int))=true:=d1
 have d3:(!(n == m))=true:=by simp;omega
 have d4:(n != m)=true:=d3
 have d5:¬ (n:Int)=(m:Int):=by omega
 go_enter Tryz.func26,Tryz.ntmps26
 go_wp2_with fail
 go_ret
 refine ⟨?_,Yl _⟩
 have:¬ a=b:=fun e=>hnm (by rw [← Hn.out,← Hm.out,e])
 simp [this]
end Go.Proofs.YtnbclgbicnpmnaaGreat
