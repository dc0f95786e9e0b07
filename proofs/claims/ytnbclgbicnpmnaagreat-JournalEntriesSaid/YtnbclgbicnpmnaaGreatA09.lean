/- Lemmas of this claim: ModA, ModE, ModB, ModF, First, Read, App, Law28a, KeepSame, Written. Conditions: as named. -/
import Derived.Shelf.Abstract
import Derived.WalkMore
import Derived.Deep.DeepCutAuto
import Derived.Deep.RegionHeld3
import Derived.Deep.CutBlock
import Derived.Test.YtnbclgbicnpmnaaGreatA02
import Derived.Test.YtnbclgbicnpmnaaGreatA04
import Derived.Test.YtnbclgbicnpmnaaGreatA08
namespace Go.Proofs.YtnbclgbicnpmnaaGreat
open Go.RowKit Go.Sort
open List renaming mem_of_getElem? → Zy, getElem?_cons_zero → Zx, length_append → Zs, getElem?_eq_some_iff → Zr, length_map → Zq, length_take → Zp, getElem?_map → Zn, take_of_length_le → Zm, length_cons → Zl, mem_append → Zj, mem_singleton → Zi, getElem?_append_left → Ze, getElem?_append_right → Zd, length_drop → Z8
open Lib renaming hid → Yw
open Go renaming bodyPost_ret → Yt
open Nat renaming le_refl → Yo
open Ext renaming refl → Yl, alloc → Yk, drewN → Yj, drew → Yi, trans → Yh
set_option maxHeartbeats 40000000
set_option maxRecDepth 100000
set_option linter.all false
open Go.Maps (Keyed string_keyed)
open Go.ChangeMaps Go.MapKept Go.WideMaps
def Um (cl cap:Int):Int:=if cl < 1∨64 < cl∨cap < 1∨64 < cap then 3 else 0
theorem Zyq (cl cap:Int):(decide (cl < 1)=true∧Um cl cap=3)∨(decide (cl < 1)=false∧decide (64 < cl)=true∧Um cl cap=3)∨(decide (cl < 1)=false∧decide (64 < cl)=false∧decide (cap < 1)=true∧Um cl cap=3) ∨
 (decide (cl < 1)=false∧decide (64 < cl)=false∧decide (cap < 1)=false∧decide (64 < cap)=true∧Um cl cap=3)∨(decide (cl < 1)=false∧decide (64 < cl)=false∧decide (cap < 1)=false∧decide (64 < cap)=false∧Um cl cap=0):=by
 by_cases h1:cl < 1
 ·exact .inl ⟨by simpa using h1,by simp [Um,h1]⟩
 by_cases h2:64 < cl
 ·exact .inr (.inl ⟨by simpa using h1,by simpa using h2,by simp [Um,h2]⟩)
 by_cases h3:cap < 1
 ·exact .inr (.inr (.inl ⟨by simpa using h1,by simpa using h2,by simpa using h3,by simp [Um,h3]⟩))
 by_cases h4:64 < cap
 ·exact .inr (.inr (.inr (.inl ⟨by simpa using h1,by simpa using h2,by simpa using h3,by simpa using h4,by simp [Um,h4]⟩)))
 exact .inr (.inr (.inr (.inr ⟨by simpa using h1,by simpa using h2,by simpa using h3,by simpa using h4,by simp [Um];omega⟩)))
theorem Tf (cl cap:Int) (w:World):Calls Tryz.prog 69 #[.agg #[.int .i64 cl,.int .i64 cap]] w fun e w'=>e=.returned (.int .i64 (Um cl cap))∧Ext w w':=by
 rcases Zyq cl cap with ⟨d1,hc⟩ | ⟨d1,d2,hc⟩ | ⟨d1,d2,d3,hc⟩ | ⟨d1,d2,d3,d4,hc⟩ | ⟨d1,d2,d3,d4,hc⟩<;>(
  rw [hc]
  clear hc
  go_enter Tryz.func69,Tryz.ntmps69
  go_wp2_with fail
  go_ret
  exact ⟨rfl,(by repeat' first|exact Yl _|assumption|apply Yk|apply Yj|apply Yi|(refine Yh ?_ (by assumption)))⟩)
def Fl (p:Kp):List Value:=[.string p.1,.int .i64 p.2.st,.int .i64 p.2.ow,.string p.2.nm,.int .i64 p.2.dl]
def Wp:List Kp→List Value
 | []=>[]
 | p::l=>Fl p++Wp l
theorem Ke:∀ a b:List Kp,Wp (a++b)=Wp a++Wp b
 | [],_=>rfl
 | p::a,b=>by simp [Wp,Ke a b]
theorem Db:∀ {l:List Kp} {j:Nat} {p:Kp},l[j]?=some p→(Wp l)[j * 5]?=some (.string p.1)∧(Wp l)[j * 5+1]?=some (.int .i64 p.2.st)∧(Wp l)[j * 5+2]?=some (.int .i64 p.2.ow)∧(Wp l)[j * 5+3]?=some (.string p.2.nm)∧(Wp l)[j * 5+4]?=some (.int .i64 p.2.dl)
 | q::l,0,p,h=>by
  simp only [Zx,Yd] at h
  subst h
  simp [Wp,Fl]
 | q::l,j+1,p,h=>by
  obtain ⟨h1,h2,h3,h4,h5⟩:=Db (l:=l) (j:=j) (p:=p) (by simpa using h)
  have e:∀ i,(Wp (q::l))[(j+1) * 5+i]?=(Wp l)[j * 5+i]?:=fun i=>by
   rw [Wp,Zd (by simp [Fl];omega)]
   congr 1
   simp [Fl];omega
  exact ⟨(e 0).trans h1,(e 1).trans h2,(e 2).trans h3,(e 3).trans h4,(e 4).trans h5⟩
def KeptAt (w:World) (S:Nat→Prop) (v:Value) (l:List Kp):Prop:=Rd w S 5 v l.length (Wp l)
theorem KeptAt.get {w:World} {S:Nat→Prop} {v:Value} {l:List Kp} (h:KeptAt w S v l) {j:Nat} {p:Kp} (hp:l[j]?=some p) :
 ∃ g o c,v=.slice (some ⟨g,o,none⟩) l.length c∧l.length≤c∧c≤maxLen∧S g∧g < w.heap.size ∧
  w.cell? ⟨g,o+j * 5,none⟩=some (.string p.1)∧w.cell? ⟨g,o+j * 5+1,none⟩=some (.int .i64 p.2.st)∧w.cell? ⟨g,o+j * 5+2,none⟩=some (.int .i64 p.2.ow)∧w.cell? ⟨g,o+j * 5+3,none⟩=some (.string p.2.nm)∧w.cell? ⟨g,o+j * 5+4,none⟩=some (.int .i64 p.2.dl):=by
 obtain ⟨g,o,c,h1,h2,h3,h4,h5,h6⟩:=Rd.at_ h (Zr.1 hp).1
 obtain ⟨q1,q2,q3,q4,q5⟩:=Db hp
 exact ⟨g,o,c,h1,h2,h3,h4,h5,h6 _ _ q1,h6 _ _ q2,h6 _ _ q3,h6 _ _ q4,h6 _ _ q5⟩
theorem KeptAt.shape {w:World} {S:Nat→Prop} {v:Value} {l:List Kp} (h:KeptAt w S v l):∃ A c,v=.slice A l.length c:=by
 obtain ⟨_,A,c,h,_⟩:=h
 exact ⟨A,c,h⟩
theorem Zw5 {l:List Kp} {k:Nat} {p:Kp} {key:ByteArray} (h:l[k]?=some p):Ib (l.drop k) key=if p.1=key then p.2 else Ib (l.drop (k+1)) key:=by
 rw [Dp h,Ib]
theorem Kr:(default:Rc)=⟨0,0,⟨#[]⟩,0⟩:=rfl
theorem Iw {S:Nat→Prop} (v:Value) (l:List Kp) (key:ByteArray) (w:World) (hl:KeptAt w S v l) :
 Calls Tryz.prog 71 #[v,.string key] w fun e w'=>e=.returned (rcV (Ib l key))∧Ext w w':=by
 obtain ⟨A,c,rfl⟩:=hl.shape
 have hlm:=hl.len
 unfold maxLen at hlm
 have Hl:=Yw hl
 clear hl
 obtain ⟨rb,hrb⟩:∃ rb,w.heap.size=rb:=⟨_,rfl⟩
 have Hrb:=Yw hrb
 go_enter Tryz.func71,Tryz.ntmps71
 go_wp2_with fail
 clear hrb
 go_loopw [9] (fun o wr=>∃ k:Nat,k≤l.length∧o=.int .i64 (k:Int)∧Ib l key=Ib (l.drop k) key∧Ext w wr∧wr.cell? ⟨rb,0,none⟩=some (.int .i64 0)∧wr.cell? ⟨rb,1,none⟩=some (.int .i64 0)∧wr.cell? ⟨rb,2,none⟩=some (.string ⟨#[]⟩)∧wr.cell? ⟨rb,3,none⟩=some (.int .i64 0)∧(∀ i,wr.frozen? ⟨rb,i,none⟩=false)∧rb < wr.heap.size) (fun o _=>l.length - (intOf o).toNat)
 case atStart=>exact ⟨0,by omega,rfl,rfl,(Yl w).alloc _,by rw [← Hrb.out];go_simp,by rw [← Hrb.out];go_simp,by rw [← Hrb.out];go_simp,by rw [← Hrb.out];go_simp,fun i=>by rw [← Hrb.out];go_simp,by rw [← Hrb.out];simp⟩
 obtain ⟨k,hk,rfl,hg,hx,y0,y1,y2,y3,yf,yb⟩:=hrel
 have Hg:=Yw hg
 have Hx:=Yw hx
 clear hg hx
 have Hrw:=Yw (show w.heap.size≤rb from by rw [Hrb.out];exact Yo _)
 by_cases hlt:k < l.length
 ·have hd:decide ((k:Int) < (l.length:Int))=true:=by simpa using hlt
  obtain ⟨p,hpk⟩:∃ p,l[k]?=some p:=⟨l[k],by simp [hlt]⟩
  obtain ⟨g,o,c',hv,p1,p2,_,b1,x0,x1,x2,x3,x4⟩:=KeptAt.get (Rd.ext Hl.out Hx.out) hpk
  simp only [Ye,true_and] at hv
  obtain ⟨rfl,rfl⟩:=hv
  have i0:(0:Int)≤(k:Int):=by omega
  have i1:(k:Int) < (l.length:Int):=by omega
  have hgd:=Zw5 (key:=key) hpk
  clear hpk
  by_cases he:p.1=key
  ·rw [if_pos he] at hgd
   subst he
   have Hgd:=Yw (Hg.out.trans hgd)
   clear hgd
   go_wp2_with fail
   refine Yt (v:=rcV (Ib l p.1)) ?_ rfl ⟨rfl,?_⟩
   ·rw [Hgd.out];simp [results,Tryz.results71,go_sem,rcV, *]
   refine Yk ?_ _;(repeat refine Ya ?_ (by exact Hrw.out) _);exact Hx.out
  rw [if_neg he] at hgd
  have hne:(p.1.toList == key.toList)=false:=by rw [ByteArray.toList_eq,ByteArray.toList_eq];simp only [beq_eq_false_iff_ne];exact fun e=>he (Iz e)
  have Hgd:=Yw (Hg.out.trans hgd)
  clear hgd he
  go_wp2_with fail
  go_roundw
  case rel =>
   refine ⟨k+1,by omega,by go_num,Hgd.out,Hx.out.alloc _,?_,?_,?_,?_,fun i=>?_,by simp;omega⟩<;>go_simp
  case measure=>simp [intOf];omega
 have hd:decide ((k:Int) < (l.length:Int))=false:=by simp;omega
 go_wp2_with fail
 refine Yt (v:=rcV (Ib l key)) ?_ rfl ⟨rfl,?_⟩
 ·rw [Hg.out,List.drop_of_length_le (by omega)];simp [results,Tryz.results71,go_sem,rcV,Ib,Kr, *]
 (repeat refine Ya ?_ (by exact Hrw.out) _);exact Hx.out
open Go.RowKit Go.Sort Go.Shelf
theorem Re (op:Int):((op == 1)=true∧Vy op=true)∨((op == 1)=false∧(op == 3)=true∧Vy op=true)∨((op == 1)=false∧(op == 3)=false∧Vy op=false):=by
 by_cases h1:op=1
 ·exact .inl ⟨by simpa using h1,by simp [Vy,h1]⟩
 by_cases h3:op=3
 ·exact .inr (.inl ⟨by simpa using h1,by simpa using h3,by simp [Vy,h3]⟩)
 exact .inr (.inr ⟨by simpa using h1,by simpa using h3,by simp [Vy,h1,h3]⟩)
theorem Lk (op:Int) (w:World):Calls Tryz.prog 101 #[.int .i64 op] w fun e w'=>e=.returned (.bool (Vy op))∧w=w':=by
 rcases Re op with ⟨d1,hc⟩ | ⟨d1,d2,hc⟩ | ⟨d1,d2,hc⟩<;>(
  rw [hc]
  clear hc
  go_enter Tryz.func101,Tryz.ntmps101
  go_wp2_with fail
  go_ret
  exact ⟨rfl,rfl⟩)
open Go.RowKit Go.Sort Go.Shelf
theorem Qo (w:World) (cs:Array Value) (t:TypeId) (z:Nat) (h:cs.size=z):Rd (w.alloc (.cells cs t)) (fun _=>True) z (.slice (some ⟨w.heap.size,0,none⟩) 1 1) 1 cs.toList:=by
 refine ⟨by simp [h],_,1,rfl,Yo _,by unfold maxLen;omega,fun _=>⟨w.heap.size,0,rfl,trivial,by simp,fun j u hu=>?_⟩⟩
 rw [Nat.zero_add]
 show (w.alloc (.cells cs t)).cell? ⟨w.heap.size,j,none⟩=some u
 have h1:(w.alloc (.cells cs t)).heap[w.heap.size]?=some (.cells cs t):=heap_alloc_new w _
 simp only [World.cell?,h1]
 simpa using hu
abbrev Lj (w:World) (S:Nat→Prop) (v:Value) (rs:List Rc):Prop:=Rd w S 4 v rs.length (Lt rs)
theorem Up {w:World} {S:Nat→Prop} {v:Value} {rs:List Rc} (h:Lj w S v rs) {j:Nat} {r:Rc} (hr:rs[j]?=some r) :
 ∃ g o c,v=.slice (some ⟨g,o,none⟩) rs.length c∧rs.length≤c∧c≤maxLen∧g < w.heap.size ∧
  w.cell? ⟨g,o+j * 4,none⟩=some (.int .i64 r.st)∧w.cell? ⟨g,o+j * 4+1,none⟩=some (.int .i64 r.ow)∧w.cell? ⟨g,o+j * 4+2,none⟩=some (.string r.nm)∧w.cell? ⟨g,o+j * 4+3,none⟩=some (.int .i64 r.dl):=by
 have hj:=(Zr.1 hr).1
 obtain ⟨g,o,c,h1,h2,h3,_,h5,h6⟩:=Rd.at_ h hj
 have e:rs.getD j default=r:=by rw [List.getD_eq_getElem?_getD,hr];rfl
 have q:=fun i hi=>Zro rs hj i hi
 rw [e] at q
 exact ⟨g,o,c,h1,h2,h3,h5,h6 _ _ (q 0 (by omega)),h6 _ _ (q 1 (by omega)),h6 _ _ (q 2 (by omega)),h6 _ _ (q 3 (by omega))⟩
structure RZ (w:World) (rb:Nat):Prop where
 z0:w.cell? ⟨rb,0,none⟩=some (.int .i64 0)
 z1:w.cell? ⟨rb,1,none⟩=some (.int .i64 0)
 z2:w.cell? ⟨rb,2,none⟩=some (.string ⟨#[]⟩)
 z3:w.cell? ⟨rb,3,none⟩=some (.int .i64 0)
 z4:w.cell? ⟨rb,4,none⟩=some (.int .i64 0)
 z5:w.cell? ⟨rb,5,none⟩=some (.string ⟨#[]⟩)
 z6:w.cell? ⟨rb,6,none⟩=some (.int .i64 0)
 z7:w.cell? ⟨rb,7,none⟩=some (.int .i64 0)
 fz:∀ i,w.frozen? ⟨rb,i,none⟩=false
 lt:rb < w.heap.size
theorem RZ.chg {S:Nat→Prop} {w w':World} {rb:Nat} (h:RZ w rb) (c:Chg S w w') (hb:¬ S rb):RZ w' rb :=
 ⟨(c.cell (p:=⟨rb,0,none⟩) h.lt hb).trans h.z0,(c.cell (p:=⟨rb,1,none⟩) h.lt hb).trans h.z1,(c.cell (p:=⟨rb,2,none⟩) h.lt hb).trans h.z2,(c.cell (p:=⟨rb,3,none⟩) h.lt hb).trans h.z3,(c.cell (p:=⟨rb,4,none⟩) h.lt hb).trans h.z4,(c.cell (p:=⟨rb,5,none⟩) h.lt hb).trans h.z5,(c.cell (p:=⟨rb,6,none⟩) h.lt hb).trans h.z6,(c.cell (p:=⟨rb,7,none⟩) h.lt hb).trans h.z7,fun i=>(c.frozen (p:=⟨rb,i,none⟩) h.lt hb).trans (h.fz i),Nat.lt_of_lt_of_le h.lt c.size⟩
theorem RZ.ext {w w':World} {rb:Nat} (h:RZ w rb) (x:Ext w w'):RZ w' rb:=h.chg (x.chg (fun _=>False)) (fun h=>h)
theorem Zrj (w:World):RZ (w.alloc (.cells #[.int .i64 0,.int .i64 0,.string ⟨#[]⟩,.int .i64 0,.int .i64 0,.string ⟨#[]⟩,.int .i64 0,.int .i64 0] 53)) w.heap.size:=by
 constructor<;>first|go_simp|(intro i;go_simp)|simp
theorem Zyi {cap op client ttl now count:Int} {ps:List (Nm×Rc)} (h:Vy op=true∧1073741824 - now < ttl):Ky cap op client ttl now count ps=⟨8,-1,⟨#[]⟩,default,now⟩:=by unfold Ky;rw [if_pos h]
theorem Mx {cap op client ttl now count e:Int} {ps:List (Nm×Rc)} {i:Nat} {n:ByteArray} (h:¬ (Vy op=true∧1073741824 - now < ttl)) (hj:Qj cap op client now 0 count ps=some (e,i,n)):Ky cap op client ttl now count ps=⟨e,i,n,default,now⟩:=by unfold Ky;rw [if_neg h,hj]
theorem Zz7 {cap op client ttl now count:Int} {p:Nm×Rc} {ps:List (Nm×Rc)} (h:¬ (Vy op=true∧1073741824 - now < ttl)) (hj:Qj cap op client now 0 count (p::ps)=none):Ky cap op client ttl now count (p::ps)=⟨0,-1,⟨#[]⟩,if op=7∧Aj p.2.st p.2.dl now=true then p.2 else default,now⟩:=by unfold Ky;rw [if_neg h,hj]
theorem Ztl {cap op client now c t:Int} {r:Rc} (ht:O8 r.st r.ow r.dl op client now=t) (h:t≠0):Zuz cap op client now c r=t:=by unfold Zuz;rw [ht,if_neg fun q=>h q.1]
theorem Zx3 {cap op client now c:Int} {r:Rc} (ht:O8 r.st r.ow r.dl op client now=0) (hg:0 < Wf r.st op) (hc:cap≤c):Zuz cap op client now c r=7:=by unfold Zuz;rw [if_pos ⟨ht,hg,hc⟩]
theorem P4 {cap op client now c:Int} {r:Rc} (ht:O8 r.st r.ow r.dl op client now=0) (hc:¬ (0 < Wf r.st op∧cap≤c)):Zuz cap op client now c r=0:=by unfold Zuz;rw [ht,if_neg fun q=>hc q.2]
theorem Us {s:List UInt8} {t:Nat} {b:Bool} (h:t≤s.length):(Vl s t b).1.length+t≤(Vl s t b).2.1:=by
 have h1:=Jq (b:=b) h
 unfold Vl
 simp only
 split
 ·simpa using h1.2
 rename_i hn
 simp only [not_or] at hn
 simp only [Zp,Z8]
 omega
def Ps (n:Nm):Nat:=n.a.size+n.u.size+n.k.size
def Q7:List Nm→Nat
 | []=>0
 | n::r=>Ps n+Q7 r
theorem Zzt {s:List UInt8} {t:Nat} {b:Bool} (h:t≤s.length):Ps (Qk s t b).1+t≤(Qk s t b).2.1:=by
 unfold Qk Ps
 simp only [Qi]
 have h1:=Jv (b:=b) h
 have h2:=Jv (s:=s) (b:=(Vl s t b).2.2) h1.1
 have k1:=Us (b:=b) h
 have k2:=Us (s:=s) (b:=(Vl s t b).2.2) h1.1
 have k3:=Us (s:=s) (b:=(Vl s (Vl s t b).2.1 (Vl s t b).2.2).2.2) h2.1
 omega
theorem Dd (s:List UInt8):∀ (n t:Nat) (b:Bool),t≤s.length→Q7 (Vt s n t b).1+t≤(Vt s n t b).2.1∧(Vt s n t b).2.1≤s.length
 | 0,t,b,h=>by simp [Vt,Q7,h]
 | n+1,t,b,h=>by
  have h1:=Zs1 (b:=b) h
  have h2:=Zzt (b:=b) h
  have h3:=Dd s n (Qk s t b).2.1 (Qk s t b).2.2 h1.1
  rw [Vt]
  simp only [Q7]
  omega
theorem Rh (s:ByteArray) (hs:s.size≤9223372036854775807):(item s.data.toList).length≤s.size+10:=by
 have hl:s.data.toList.length=s.size:=rfl
 have:=Vs (v:=((s.data.toList.length:Nat):Int)) (by omega) (by omega)
 rw [item,Zs];omega
theorem Gr:∀ l:List Nm,Q7 l≤9223372036854775807→(Xo l).length≤Q7 l+30 * l.length
 | [],_=>by simp [Xo,Q7]
 | n::r,h=>by
  simp only [Q7,Ps] at h
  have h1:=Gr r (by omega)
  have a:=Rh n.a (by omega)
  have u:=Rh n.u (by omega)
  have k:=Rh n.k (by omega)
  simp only [Xo,Wg,Q7,Ps,Zs,Zl]
  omega
theorem Zqe {e:Ent} (h1:I64 e.cl) (h2:I64 e.op) (h3:I64 e.ttl) (h4:I64 e.tick) (hl:e.names.length≤17) (hs:Q7 e.names≤9223372036854775807):(Wm e).length≤Q7 e.names+560:=by
 have c1:=Vs h1.1 h1.2
 have c2:=Vs h2.1 h2.2
 have c3:=Vs h3.1 h3.2
 have c4:=Vs h4.1 h4.2
 have c5:=Vs (v:=(e.names.length:Nat)) (by omega) (by omega)
 have c6:=Gr e.names hs
 unfold Wm Wn
 simp only [Zs]
 omega
theorem Zvl {s:List UInt8} {e:Ent} (hs:s.length≤140737488351232) (h:I7 s=some e):(Wm e).length+100≤140737488355328:=by
 unfold I7 at h
 simp only at h
 split at h
 ·rename_i hn
  split at h
  ·simp at h
  simp only [Yd] at h
  have hb:=Zsq s
  obtain ⟨k1,k2⟩:=Dd s (Qp s).n.toNat (Qp s).at_ (Qp s).bad hb
  have hl:=Bj s (Qp s).n.toNat (Qp s).at_ (Qp s).bad
  have hI:I64 (Qp s).cl∧I64 (Qp s).op∧I64 (Qp s).ttl∧I64 (Qp s).tick:=by
   unfold Qp
   exact ⟨Fq _ _ _,Fq _ _ _,Fq _ _ _,Fq _ _ _⟩
  subst h
  have:=Zqe (e:=⟨(Qp s).cl,(Qp s).op,(Qp s).ttl,(Qp s).tick,(Vt s (Qp s).n.toNat (Qp s).at_ (Qp s).bad).1⟩) hI.1 hI.2.1 hI.2.2.1 hI.2.2.2 (by simp only;omega) (by simp only;omega)
  simp only at this
  omega
 simp at h
def Zwu (s:ByteArray) (w:World) (x:Ending) (w':World):Prop :=
 Ext w w'∧((∃ e n v,V9 s.data.toList=some (e,n)∧x=.returned (.tuple #[Ui e v,.int .i64 (n:Int),.bool true])∧Wq w' (fun k=>w.heap.size≤k) v e.names)∨(V9 s.data.toList=none∧∃ e A k c n,x=.returned (.tuple #[Ui e (.slice A k c),.int .i64 n,.bool false])))
theorem Cj (s:ByteArray) (hs:s.size≤140737488351232) (w:World):Calls Tryz.prog 90 #[.string s] w (Zwu s w):=by
 obtain ⟨L,hL⟩:∃ L,s.data.toList=L:=⟨_,rfl⟩
 obtain ⟨x1,t1,b1,h1⟩:∃ v t b,Vl L 0 false=(v,t,b):=⟨_,_,_,rfl⟩
 obtain ⟨v2,t2,b2,h2⟩:∃ v t b,Ul L t1 b1=(v,t,b):=⟨_,_,_,rfl⟩
 have hfp:V9 L=if b2 then none else match I7 x1 with|none=>none|some e=>if Jd e=(0,L.take t2) then some (e,t2) else none:=by
  unfold V9
  simp only [h1,h2]
  rfl
 have hxl:x1.length≤s.size:=by
  have a:=Us (s:=L) (t:=0) (b:=false) (Nat.zero_le _)
  have b:=Jv (s:=L) (t:=0) (b:=false) (Nat.zero_le _)
  rw [h1] at a b
  have:L.length=s.size:=by rw [← hL];rfl
  simp only at a b
  omega
 rw [← hL] at h1 h2
 have H1:=Yw h1
 have H2:=Yw h2
 have Hfp:=Yw hfp
 have HL:=Yw hL
 clear h1 h2 hfp hL
 have hst0:NSt w ((w.alloc (.cells #[.int .i64 0,.int .i64 0,.int .i64 0,.int .i64 0,.slice none 0 0] 83)).alloc (.cells #[.string s,.int .i64 0,.bool false] 205)) w.heap.size (w.heap.size+1) s 0 false:=by
  refine ⟨⟨by simp,fun i=>by go_simp,by go_simp,by go_simp,by go_simp⟩,⟨by simp;omega,fun i=>by go_simp,by go_simp,by go_simp,by go_simp,by go_simp,by go_simp⟩,((Yl w).alloc _).alloc _,by omega⟩
 have Hs0:=Yw hst0
 clear hst0
 obtain ⟨cb,hcb⟩:∃ cb,w.heap.size=cb:=⟨_,rfl⟩
 rw [hcb] at Hs0
 have hne:cb≠cb+1:=by omega
 have hge:w.heap.size≤cb+1:=by omega
 have hcw:w.heap.size≤cb:=by omega
 go_enter Tryz.func90,Tryz.ntmps90
 go_wp2_with fail
 refine (Dw (cb+1) s 0 false (by omega) (by omega) _ Hs0.out.rdr).mono ?_
 intro x w1 hp
 obtain ⟨rfl,hs1,_⟩:=Hs0.out.text H1.out hne hge hp
 have Hs1:=Yw hs1
 clear hp hs1 Hs0
 go_wp2_with fail
 refine (Qw (cb+1) s t1 b1 Hs1.out.le (by omega) _ Hs1.out.rdr).mono ?_
 intro x w2 hp
 obtain ⟨rfl,hs2⟩:=Hs1.out.num H2.out hne hge hp
 have Hs2:=Yw hs2
 clear hp hs2 Hs1
 cases b2 with
 | true =>
  have Hno:=Yw (show V9 s.data.toList=none by rw [HL.out,Hfp.out];rfl)
  obtain ⟨g1,g2,c0,c1,c2,c3,c4⟩:=Hs2.out.res
  obtain ⟨r1,r2,r3,r4,r5⟩:=Hs2.out.rdr
  go_wp2_with fail
  exact Yt (v:=.tuple #[Ui ⟨0,0,0,0,[]⟩ (.slice none 0 0),.int .i64 0,.bool false]) (by simp [results,Tryz.results90,go_sem,Ui, *]) rfl ⟨by repeat (first|exact Hs2.out.ext|apply Yi|(refine Ya ?_ hcw _)),.inr ⟨Hno.out,_,_,_,_,_,rfl⟩⟩
 | false =>
  obtain ⟨r1,r2,r3,r4,r5⟩:=Hs2.out.rdr
  have hz2:cb+1 < w2.heap.size:=r1
  go_wp2_with fail
  refine (Zu3 (bs x1) (by rw [Qi];omega) _).mono ?_
  rintro x w3 ⟨hx3,⟨e,v,hent,rfl,hnm⟩ | ⟨hent,e,A,k,c,rfl⟩⟩
  ·have Hent:=Yw hent
   have Hs3:=Yw (show NSt w w3 cb (cb+1) s t2 false from ⟨Hs2.out.rdr.ext hx3,Hs2.out.res.ext hx3,Hs2.out.ext.trans hx3,Hs2.out.le⟩)
   have Hnm:=Yw hnm
   have hbd:=Zvl (by rw [Fn];omega) hent
   clear hx3 hent hnm Hs2 r1 r2 r3 r4 r5
   obtain ⟨A,c,rfl⟩:=Hnm.out.shape
   have hxa:Ext w3 (w3.alloc (.cells #[.int .i64 e.cl,.int .i64 e.op,.int .i64 e.ttl,.int .i64 e.tick,.slice A e.names.length c] 83)):=(Yl w3).alloc _
   have he4:Lm (w3.alloc (.cells #[.int .i64 e.cl,.int .i64 e.op,.int .i64 e.ttl,.int .i64 e.tick,.slice A e.names.length c] 83)) w3.heap.size e (.slice A e.names.length c):=⟨by simp,fun i=>by go_simp,by go_simp,by go_simp,by go_simp,by go_simp,by go_simp⟩
   have Hs4:=Yw (Hs3.out.alloc (.cells #[.int .i64 e.cl,.int .i64 e.op,.int .i64 e.ttl,.int .i64 e.tick,.slice A e.names.length c] 83))
   have Hnm4:=Yw (Hnm.out.ext hxa)
   have hz3:cb+1 < w3.heap.size:=Hs3.out.rdr.1
   obtain ⟨eb,heb⟩:∃ eb,w3.heap.size=eb:=⟨_,rfl⟩
   obtain ⟨w4,hw4⟩:∃ w4,w3.alloc (.cells #[.int .i64 e.cl,.int .i64 e.op,.int .i64 e.ttl,.int .i64 e.tick,.slice A e.names.length c] 83)=w4:=⟨_,rfl⟩
   rw [heb] at he4
   rw [hw4] at he4 Hs4 Hnm4
   have He4:=Yw he4
   obtain ⟨e1,e2,e3,e4,e5,e6,e7⟩:=he4
   have hne2:¬ cb=eb:=by omega
   have hne3:¬ cb=cb+1:=by omega
   clear hxa Hs3 Hnm
   unfold Ui
   go_wp2_with fail
   refine (Ab e (.slice A e.names.length c) _ Hnm4.out hbd).mono ?_
   rintro x w5 ⟨rfl,hx5⟩
   obtain ⟨code,ys,hcy⟩:∃ code ys,Jd e=(code,ys):=⟨_,_,rfl⟩
   rw [hcy]
   have Hcy:=Yw hcy
   have hex:s.extract 0 t2=bs (L.take t2):=by
    apply ByteArray.ext
    rw [ByteArray.data_extract]
    apply Array.ext'
    rw [Array.toList_extract,HL.out]
    show List.extract L 0 t2=L.take t2
    rw [List.extract_eq_take_drop];simp
   have Hex:=Yw hex
   have Hs5:=Yw (show NSt w w5 cb (cb+1) s t2 false from ⟨Hs4.out.rdr.ext hx5,Hs4.out.res.ext hx5,Hs4.out.ext.trans hx5,Hs4.out.le⟩)
   have Hnm5:=Yw (Hnm4.out.ext hx5)
   obtain ⟨f1,f2,f3,f4,f5,f6,f7⟩:=He4.out.ext hx5
   obtain ⟨r1,r2,r3,r4,r5⟩:=Hs5.out.rdr
   obtain ⟨z1,z2,z3,z4,z5,z6,z7⟩:=Hs5.out.res
   have hle:=Hs5.out.le
   have q0:(0:Int)≤(t2:Int):=by omega
   have q1:(t2:Int)≤(s.size:Int):=by omega
   clear hcy hex hx5 e1 e2 e3 e4 e5 e6 e7 Hs4 Hnm4 He4 hw4 heb
   simp only
   by_cases hc0:code=0
   ·subst hc0
    by_cases hys:ys=L.take t2
    ·have Hyes:=Yw (show V9 s.data.toList=some (e,t2) by rw [HL.out,Hfp.out];simp only [Bool.false_eq_true,if_false];rw [← Fn x1,Hent.out];simp only;rw [if_pos (by rw [Hcy.out,hys])])
     have heq:((bs ys).toList == (s.extract 0 t2).toList)=true:=by rw [Hex.out,hys];exact beq_self_eq_true _
     clear hys
     go_wp2_with fail
     go_region
     go_wp2_with fail
     exact Yt (v:=.tuple #[Ui e (.slice A e.names.length c),.int .i64 (t2:Int),.bool true]) (by simp [results,Tryz.results90,go_sem,Ui, *]) rfl ⟨by repeat (first|exact Hs5.out.ext|apply Yi|(refine Ya ?_ hcw _)),.inl ⟨e,t2,_,Hyes.out,rfl,(Rd.chg Hnm5.out (T:=(· = cb)) (by repeat (first|exact Chg.refl _ _|apply Chg.drew|(refine Chg.setCell ?_ (.inl (by simp)) _))) (fun q hq e=>by omega)).mono (fun q hq _=>by omega)⟩⟩
    have Hno:=Yw (show V9 s.data.toList=none by rw [HL.out,Hfp.out];simp only [Bool.false_eq_true,if_false];rw [← Fn x1,Hent.out];simp only;rw [if_neg (by rw [Hcy.out];simp [hys])])
    have heq:((bs ys).toList == (s.extract 0 t2).toList)=false:=by
     rw [Hex.out,beq_eq_false_iff_ne,ByteArray.toList_eq,ByteArray.toList_eq]
     exact hys
    clear hys
    go_wp2_with fail
    go_region
    go_wp2_with fail
    exact Yt (v:=.tuple #[Ui e (.slice A e.names.length c),.int .i64 (t2:Int),.bool false]) (by simp [results,Tryz.results90,go_sem,Ui, *]) rfl ⟨by repeat (first|exact Hs5.out.ext|apply Yi|(refine Ya ?_ hcw _)),.inr ⟨Hno.out,e,_,_,_,_,rfl⟩⟩
   have Hno:=Yw (show V9 s.data.toList=none by rw [HL.out,Hfp.out];simp only [Bool.false_eq_true,if_false];rw [← Fn x1,Hent.out];simp only;rw [if_neg (by rw [Hcy.out];simp [hc0])])
   have hcd:(code == 0)=false:=by simpa using hc0
   go_wp2_with fail
   go_region
   go_wp2_with fail
   exact Yt (v:=.tuple #[Ui e (.slice A e.names.length c),.int .i64 (t2:Int),.bool false]) (by simp [results,Tryz.results90,go_sem,Ui, *]) rfl ⟨by repeat (first|exact Hs5.out.ext|apply Yi|(refine Ya ?_ hcw _)),.inr ⟨Hno.out,e,_,_,_,_,rfl⟩⟩
  have Hno:=Yw (show V9 s.data.toList=none by rw [HL.out,Hfp.out,← Fn x1,hent];rfl)
  obtain ⟨g1,g2,c0,c1,c2,c3,c4⟩:=Hs2.out.res.ext hx3
  have Hx3:=Yw (Hs2.out.ext.trans hx3)
  clear hx3 hent Hs2 r1 r2 r3 r4 r5
  unfold Ui
  go_wp2_with fail
  exact Yt (v:=.tuple #[Ui ⟨0,0,0,0,[]⟩ (.slice none 0 0),.int .i64 0,.bool false]) (by simp [results,Tryz.results90,go_sem,Ui, *]) rfl ⟨by repeat (first|exact Hx3.out|apply Yi|apply Yk|(refine Ya ?_ hcw _)),.inr ⟨Hno.out,_,_,_,_,_,rfl⟩⟩
def Vm (p:Ent×Value):List Value:=[.int .i64 p.1.cl,.int .i64 p.1.op,.int .i64 p.1.ttl,.int .i64 p.1.tick,p.2]
def Ws:List (Ent×Value)→List Value
 | []=>[]
 | p::r=>Vm p++Ws r
theorem Qn:∀ a b:List (Ent×Value),Ws (a++b)=Ws a++Ws b
 | [],_=>rfl
 | p::r,b=>by simp [Ws,Qn r b]
theorem Bx:∀ l:List (Ent×Value),(Ws l).length=l.length * 5
 | []=>rfl
 | p::r=>by rw [Ws,Zs,Bx r];simp [Vm];omega
theorem V0:∀ {l:List (Ent×Value)} {j:Nat} {p:Ent×Value},l[j]?=some p→∀ k,k < 5→(Ws l)[j * 5+k]?=(Vm p)[k]?
 | q::r,0,p,h,k,hk=>by
  simp only [Zx,Yd] at h
  subst h
  rw [Ws,Ze (by simp [Vm];omega)]
  congr 1;omega
 | q::r,j+1,p,h,k,hk=>by
  have:=V0 (l:=r) (j:=j) (p:=p) (by simpa using h) k hk
  rw [Ws,Zd (by simp [Vm];omega),← this]
  congr 1
  simp [Vm];omega
def V7 (w:World) (S:Nat→Prop) (v:Value) (ps:List (Ent×Value)):Prop :=
 Rd w S 5 v ps.length (Ws ps)∧∀ p∈ps,Wq w S p.2 p.1.names
theorem V7.ext {w w':World} {S:Nat→Prop} {v:Value} {ps:List (Ent×Value)} (h:V7 w S v ps) (x:Ext w w'):V7 w' S v ps:=⟨Rd.ext h.1 x,fun p hp=>(h.2 p hp).ext x⟩
theorem V7.mono {w:World} {S T:Nat→Prop} {v:Value} {ps:List (Ent×Value)} (h:V7 w S v ps) (hst:∀ k,S k→T k):V7 w T v ps:=⟨Rd.mono h.1 fun k hk _=>hst k hk,fun p hp=>Rd.mono (h.2 p hp) fun k hk _=>hst k hk⟩
theorem Cz:Tryz.prog.underlying 43=some (.slice 83):=by kernel_rfl
theorem K6:(Tryz.prog.info? 83).map (fun i=>(i.zero,i.size,i.bytes))=some (some (.agg #[.int .i64 0,.int .i64 0,.int .i64 0,.int .i64 0,.slice none 0 0]),5,56):=by kernel_rfl
theorem Zvk (w:World) (a b c d:Int) (v:Value):Rd (w.alloc (.cells #[.int .i64 a,.int .i64 b,.int .i64 c,.int .i64 d,v] 83)) (fun _=>True) 5 (.slice (some ⟨w.heap.size,0,none⟩) 1 1) 1 [.int .i64 a,.int .i64 b,.int .i64 c,.int .i64 d,v]:=by
 have h1:(w.alloc (.cells #[.int .i64 a,.int .i64 b,.int .i64 c,.int .i64 d,v] 83)).heap[w.heap.size]?=some (.cells #[.int .i64 a,.int .i64 b,.int .i64 c,.int .i64 d,v] 83):=heap_alloc_new w _
 refine ⟨by simp,_,_,rfl,Yo _,by unfold maxLen;omega,fun _=>⟨_,_,rfl,trivial,(Array.getElem?_eq_some_iff.1 h1).1,fun j u hu=>?_⟩⟩
 simp only [World.cell?,h1]
 rw [Nat.zero_add,← hu]
 simp
structure Zra (w w':World) (L:List UInt8) (v:Value) (t:Nat) (ps:List (Ent×Value)):Prop where
 own:w'.ownsRow w.heap.size 83 5 v ps.length (Ws ps)
 nms:∀ p∈ps,Wq w' (fun b=>w.heap.size≤b∧v.ownBlock≠some b) p.2 p.1.names
 ext:Ext w w'
 le:t≤L.length
 len:ps.length≤4096
 val:Jf 4096 L=(ps.map Prod.fst++(Jf (4096 - ps.length) (L.drop t)).1,t+(Jf (4096 - ps.length) (L.drop t)).2)
def P3 (s:ByteArray) (w:World) (x:Ending) (w':World):Prop :=
 Ext w w'∧∃ v ps,x=.returned (.tuple #[v,.int .i64 ((Kq s.data.toList).2:Nat)])∧ps.map Prod.fst=(Kq s.data.toList).1∧V7 w' (fun k=>w.heap.size≤k) v ps
theorem Zra.fin {s:ByteArray} {w w':World} {v:Value} {t:Nat} {ps:List (Ent×Value)} (h:Zra w w' s.data.toList v t ps) (he:Jf (4096 - ps.length) (s.data.toList.drop t)=([],0)):P3 s w (.returned (.tuple #[v,.int .i64 (t:Int)])) w':=by
 have hv:=h.val
 rw [he] at hv
 simp only [List.append_nil,Nat.add_zero] at hv
 refine ⟨h.ext,v,ps,by unfold Kq;rw [hv],by unfold Kq;rw [hv],Rd.of_own h.own fun k hk=>(h.own.lt k hk).1,fun p hp=>Rd.mono (h.nms p hp) fun k hk _=>hk.1⟩
theorem Zra.more {w w1 w2 w3:World} {L:List UInt8} {v v':Value} {t n:Nat} {ps:List (Ent×Value)} {e:Ent} {u:Value} (h:Zra w w1 L v t ps) (hx:Ext w1 w2) (hf:V9 (L.drop t)=some (e,n)) (hu:Wq w2 (fun k=>w1.heap.size≤k) u e.names) (hlt:ps.length < 4096)
 (ha:K7 w2 w.heap.size 83 5 v (ps.length+1) (Ws ps++Vm (e,u)) v' w3):Zra w w3 L v' (t+n) (ps++[(e,u)]):=by
 have hz:=hx.size
 have hz1:=h.ext.size
 have hcg:Chg (fun b=>v.ownBlock=some b) w2 w3:=(Chg.refl _ _).grown ha.grown (fun k hk=>.inl hk)
 have hown1:∀ k,v.ownBlock=some k→w.heap.size≤k∧k < w1.heap.size:=h.own.lt
 have hkeep:∀ {S:Nat→Prop} {x:Value} {l:List Nm},Wq w2 S x l→(∀ b,S b→b < w2.heap.size→w.heap.size≤b∧v.ownBlock≠some b)→Wq w3 (fun b=>w.heap.size≤b∧v'.ownBlock≠some b) x l:=fun {S x l} hn hS=>by
  have h1:Wq w2 (fun b=>(w.heap.size≤b∧v.ownBlock≠some b)∧b < w2.heap.size) x l:=Rd.mono hn fun k hk hkl=>⟨hS k hk hkl,hkl⟩
  refine Rd.mono (Rd.chg h1 hcg fun k hk e=>hk.1.2 e) fun k hk _=>⟨hk.1.1,fun e=>?_⟩
  rcases ha.at_ with h2|h2
  ·rw [h2] at e;exact hk.1.2 e
  rw [h2] at e
  simp only [Yd] at e
  omega
 obtain ⟨hp1,hp2⟩:=first_pos (Km hf)
 rw [Z8] at hp2
 refine ⟨?_,fun p hp=>?_,(h.ext.trans hx).chg_new hcg (fun i hi=>(hown1 i hi).1),by omega,by simp;omega,?_⟩
 ·have:=ha.own
  rw [Qn]
  simpa [Ws] using this
 ·rcases Zj.1 hp with hp|hp
  ·exact hkeep ((h.nms p hp).ext hx) fun b hb _=>hb
  simp only [Zi] at hp
  subst hp
  exact hkeep hu fun b hb _=>⟨by omega,fun e=>by have:=(hown1 b e).2;omega⟩
 have hv:=h.val
 obtain ⟨m,hm⟩:∃ m,4096 - ps.length=m+1:=⟨4095 - ps.length,by omega⟩
 rw [hm,My (Km hf),List.drop_drop] at hv
 have hm2:4096 - (ps++[(e,u)]).length=m:=by simp;omega
 rw [hm2,hv]
 simp [Nat.add_assoc]
theorem I6 (s:ByteArray) (hs:s.size≤140737488351232) (w:World):Calls Tryz.prog 52 #[.string s] w (P3 s w):=by
 have hst:Zra w w s.data.toList (.slice none 0 0) 0 []:=⟨World.ownsRow_nil _ _ _ _,by simp,Yl _,Nat.zero_le _,by simp,by simp⟩
 have Hst:=Yw hst
 clear hst
 go_enter Tryz.func52,Tryz.ntmps52
 go_wp2_with fail
 go_step3
 go_wp2_with fail
 go_step3
 go_wp2_with fail
 go_loopw [4,5] (fun v o wr=>∃ t ps,o=.int .i64 (t:Nat)∧Zra w wr s.data.toList v t ps) (fun v _ _=>4096 - (match v with | .slice _ n _=>n|_=>0))
 case atStart=>exact ⟨0,[],rfl,Hst.out⟩
 clear Hst
 obtain ⟨t,ps,rfl,hst⟩:=hrel
 obtain ⟨a,c,rfl⟩:=Vw hst.own
 have hle:=hst.le
 have hlen:=hst.len
 have hLl:s.data.toList.length=s.size:=rfl
 have Hst:=Yw hst
 clear hst
 by_cases hlt:ps.length < 4096
 ·have hd:decide ((ps.length:Int) < 4096)=true:=by simp;omega
  have hd':(ps.length:Int) < 4096:=by omega
  have q0:(0:Int)≤(t:Int):=by omega
  have q1:(t:Int)≤(s.size:Int):=by omega
  obtain ⟨sub,hsub⟩:∃ sub,s.extract t s.size=sub:=⟨_,rfl⟩
  have hsl:sub.data.toList=s.data.toList.drop t:=by
   rw [← hsub,ByteArray.data_extract,Array.toList_extract]
   show List.extract s.data.toList t s.size=_
   rw [List.extract_eq_take_drop,Zm (by rw [Z8];omega)]
  have hss:sub.size≤140737488351232:=by
   have:sub.data.toList.length=sub.size:=rfl
   rw [hsl,Z8] at this
   omega
  have Hsl:=Yw hsl
  clear hsl
  go_wp2_with fail
  refine (Cj sub hss _).mono ?_
  rintro x w1 ⟨hx,⟨e,n,u,hf,rfl,hnm⟩ | ⟨hf,e,A,k,c2,n,rfl⟩⟩
  ·obtain ⟨A,c2,rfl⟩:=hnm.shape
   have hf':V9 (s.data.toList.drop t)=some (e,n):=by rw [← Hsl.out];exact hf
   have hpos:=first_pos (Km hf')
   rw [Z8] at hpos
   obtain ⟨hpos,hnl⟩:=hpos
   have hw3:wrap64 ((t:Int)+(n:Int))=((t+n:Nat):Int):=by unfold wrap64;omega
   have Hf:=Yw hf'
   have hxa:Ext w1 ((w1.alloc (.cells #[.int .i64 e.cl,.int .i64 e.op,.int .i64 e.ttl,.int .i64 e.tick,.slice A e.names.length c2] 83)).alloc (.cells #[.int .i64 e.cl,.int .i64 e.op,.int .i64 e.ttl,.int .i64 e.tick,.slice A e.names.length c2] 83)):=((Yl _).alloc _).alloc _
   have Hx:=Yw (hx.trans hxa)
   have Hnm:=Yw (hnm.ext hxa)
   have Hown:=Yw (((Rd.of_own (S:=fun _=>True) Hst.out.own (fun _ _=>trivial)).ext (hx.trans hxa)))
   have hown2:=Yw (Hst.out.own.kept (hx.trans hxa).grownN (by cases hb:(Value.slice a ps.length c).ownBlock with|none=>exact .inl rfl|some k=>exact .inr (by simp)))
   have hrl:=Zvk (w1.alloc (.cells #[.int .i64 e.cl,.int .i64 e.op,.int .i64 e.ttl,.int .i64 e.tick,.slice A e.names.length c2] 83)) e.cl e.op e.ttl e.tick (.slice A e.names.length c2)
   rw [show (w1.alloc (.cells #[.int .i64 e.cl,.int .i64 e.op,.int .i64 e.ttl,.int .i64 e.tick,.slice A e.names.length c2] 83)).heap.size=w1.heap.size+1 by simp] at hrl
   have hbz:w.heap.size≤((w1.alloc (.cells #[.int .i64 e.cl,.int .i64 e.op,.int .i64 e.ttl,.int .i64 e.tick,.slice A e.names.length c2] 83)).alloc (.cells #[.int .i64 e.cl,.int .i64 e.op,.int .i64 e.ttl,.int .i64 e.tick,.slice A e.names.length c2] 83)).heap.size:=by have:=Hst.out.ext.size;have:=hx.size;simp;omega
   obtain ⟨i0,hi,hz0,hz1,hz2⟩:=info_parts K6
   clear hxa hx hnm hf hf' Hown
   unfold Ui
   skip
   go_wp2_with (at_builtin;refine Vf _ rfl _ _ 43 rfl w.heap.size 83 i0 _ 5 56 Cz hi hz0 hz1 hz2 rfl (by decide) _ ps.length _ rfl hown2.out (fun _=>True) _ 1 _ rfl hrl (by simp [Value.oneCell']) (by unfold maxLen;omega) (by omega) hbz ?_;intro v' w3 ha;obtain ⟨a3,c3,hv3⟩:=Vw ha.own;subst hv3)
   have Hend:=Yw (Hst.out.more Hx.out Hf.out Hnm.out hlt ha)
   clear ha hrl hown2 hbz
   go_roundw
   case rel=>exact ⟨t+n,_,by first|rfl|(rw [hw3]),by simpa using Hend.out⟩
   case measure=>simp;omega
  have hx':=hx.alloc (.cells #[.int .i64 e.cl,.int .i64 e.op,.int .i64 e.ttl,.int .i64 e.tick,.slice A k c2] 83)
  have Hfin:=Yw (Zra.fin (s:=s) (w:=w) (w':=w1.alloc (.cells #[.int .i64 e.cl,.int .i64 e.op,.int .i64 e.ttl,.int .i64 e.tick,.slice A k c2] 83)) (v:=.slice a ps.length c) (t:=t) (ps:=ps) ⟨Hst.out.own.kept hx'.grownN (by cases hb:(Value.slice a ps.length c).ownBlock with|none=>exact .inl rfl|some k=>exact .inr (by simp)),fun p hp=>(Hst.out.nms p hp).ext hx',Hst.out.ext.trans hx',Hst.out.le,Hst.out.len,Hst.out.val⟩ (Ll fun e n=>Tk (by rw [← Hsl.out];exact hf) e n))
  clear hx'
  clear hf hx
  unfold Ui
  go_wp2_with fail
  go_ret2
  exact Hfin.out
 have hd:decide ((ps.length:Int) < 4096)=false:=by simp;omega
 have hd':¬ (ps.length:Int) < 4096:=by omega
 have hz:4096 - ps.length=0:=by omega
 have Hfin:=Yw (Hst.out.fin (by rw [hz];rfl))
 clear hz
 go_wp2_with fail
 go_ret2
 exact Hfin.out
theorem Zv2 {e:Ent} {x:List UInt8} (h:Jd e=(0,x)):x.length≤4200:=by
 obtain ⟨f,rfl,_⟩:=Eb h
 have hb:=f.body
 have hs:=Zx9 (Wm e)
 have c1:=Vs (v:=((Wm e).length:Nat)) (by omega) (by omega)
 have c2:=Vs (v:=(Zx2 (Wm e):Nat)) (by omega) (by omega)
 rw [Uk,Zs,item,Zs]
 omega
theorem Zpg {s:List UInt8} {e:Ent} (h:(Jd e).1≠0):appJ s e=((Jd e).1,[]):=by unfold appJ;rw [if_pos h]
theorem Zso {s:List UInt8} {e:Ent} (h:(Jd e).1=0) (h2:4096≤(Kq s).1.length∨32768 < (Kq s).2+(Jd e).2.length):appJ s e=(7,[]):=by unfold appJ;rw [if_neg (by simp [h]),if_pos h2]
theorem Zrd {s:List UInt8} {e:Ent} (h:(Jd e).1=0) (h2:¬ (4096≤(Kq s).1.length∨32768 < (Kq s).2+(Jd e).2.length)):appJ s e=(0,s.take (Kq s).2++(Jd e).2):=by unfold appJ;rw [if_neg (by simp [h]),if_neg h2]
theorem P0 (s:ByteArray) (t:Nat):s.extract 0 t=bs (s.data.toList.take t):=by
 apply ByteArray.ext
 rw [ByteArray.data_extract]
 apply Array.ext'
 rw [Array.toList_extract]
 show List.extract s.data.toList 0 t=s.data.toList.take t
 rw [List.extract_eq_take_drop];simp
theorem Zyt {S:Nat→Prop} (s:ByteArray) (e:Ent) (v:Value) (hs:s.size≤140737488351232) (w:World) (hn:Wq w S v e.names) (hsz:(Wm e).length+100≤140737488355328) :
 Calls Tryz.prog 35 #[.string s,Ui e v] w fun x w'=>x=.returned (.tuple #[.string (bs (appJ s.data.toList e).2),.int .i64 (appJ s.data.toList e).1])∧Ext w w':=by
 obtain ⟨A,c,rfl⟩:=hn.shape
 have hx0:Ext w (w.alloc (.cells #[.int .i64 e.cl,.int .i64 e.op,.int .i64 e.ttl,.int .i64 e.tick,.slice A e.names.length c] 83)):=(Yl w).alloc _
 have Hn:=Yw (hn.ext hx0)
 have Hx0:=Yw hx0
 obtain ⟨code,ys,hcy⟩:∃ code ys,Jd e=(code,ys):=⟨_,_,rfl⟩
 have Hcy:=Yw hcy
 clear hn hx0
 unfold Ui
 go_enter Tryz.func35,Tryz.ntmps35
 go_wp2_with fail
 refine (Ab e (.slice A e.names.length c) _ Hn.out hsz).mono ?_
 rintro x w1 ⟨rfl,hx1⟩
 have Hx1:=Yw (Hx0.out.trans hx1)
 rw [hcy]
 clear hx1 hcy Hx0 Hn
 simp only
 by_cases hc0:code=0
 ·subst hc0
  have hyl:=Zv2 Hcy.out
  obtain ⟨n,hrn⟩:∃ n,(Kq s.data.toList).2=n:=⟨_,rfl⟩
  obtain ⟨es,hre⟩:∃ es,(Kq s.data.toList).1=es:=⟨_,rfl⟩
  have hrl:n≤s.size:=by rw [← hrn];exact (Im 4096 s.data.toList).1
  obtain ⟨yb,hyb⟩:∃ yb,bs ys=yb:=⟨_,rfl⟩
  have hysz:yb.size=ys.length:=by rw [← hyb,Qi]
  have Hyb:=Yw hyb
  have Hrn:=Yw hrn
  have Hre:=Yw hre
  have Hysz:=Yw hysz
  have hyl2:yb.size≤4200:=by omega
  rw [hyb]
  clear hyb hre hysz
  go_wp2_with fail
  refine (I6 s hs _).mono ?_
  rintro x w2 ⟨hx2,v2,ps,rfl,hps,hents⟩
  obtain ⟨_,A2,c2,hv2,_⟩:=hents.1
  subst hv2
  have hpl:ps.length=es.length:=by rw [← Hre.out,← hps,Zq]
  have Hx2:=Yw (Hx1.out.trans hx2)
  rw [hrn]
  have Hpl:=Yw hpl
  clear hps hents hx2 Hx1 hrn hpl
  have hadd:wrap64 ((n:Int)+(yb.size:Int))=(n:Int)+(yb.size:Int):=by unfold wrap64;omega
  by_cases hfull:4096≤ps.length∨32768 < n+yb.size
  ·have Hf:=Yw (Zso (s:=s.data.toList) (e:=e) (by rw [Hcy.out]) (by rw [Hrn.out,Hre.out,Hcy.out,← Hpl.out,← Hysz.out];exact hfull))
   by_cases h1:4096≤ps.length
   ·have hd1:decide ((4096:Int)≤(ps.length:Int))=true:=by simp;omega
    clear hfull
    go_wp2_with fail
    go_ret2
    exact ⟨by rw [Hf.out];rfl,Hx2.out⟩
   have hd1:decide ((4096:Int)≤(ps.length:Int))=false:=by simp;omega
   have h2:32768 < n+yb.size:=by rcases hfull with h|h;exact absurd h h1;exact h
   have hd2:decide ((32768:Int) < (n:Int)+(yb.size:Int))=true:=by simp;omega
   have hd3:(32768:Int) < (n:Int)+(yb.size:Int):=by omega
   clear hfull
   go_wp2_with fail
   go_ret2
   exact ⟨by rw [Hf.out];rfl,Hx2.out⟩
  have h1:¬ 4096≤ps.length:=fun h=>hfull (.inl h)
  have h2:¬ 32768 < n+yb.size:=fun h=>hfull (.inr h)
  have Hf:=Yw (Zrd (s:=s.data.toList) (e:=e) (by rw [Hcy.out]) (by rw [Hrn.out,Hre.out,Hcy.out,← Hpl.out,← Hysz.out];exact hfull))
  have hd1:decide ((4096:Int)≤(ps.length:Int))=false:=by simp;omega
  have hd2:decide ((32768:Int) < (n:Int)+(yb.size:Int))=false:=by simp;omega
  have hd3:¬ (32768:Int) < (n:Int)+(yb.size:Int):=by omega
  have q0:(0:Int)≤(n:Int):=by omega
  have q1:(n:Int)≤(s.size:Int):=by omega
  obtain ⟨hdb,hhd⟩:∃ hdb,s.extract 0 n=hdb:=⟨_,rfl⟩
  have hhs:hdb.size≤s.size:=by rw [← hhd,ByteArray.size_extract];omega
  have hno:¬ 9223372036854775807 < hdb.size+yb.size:=by omega
  have Hfin:=Yw (show hdb++yb=bs (appJ s.data.toList e).2 by
   rw [Hf.out,← hhd,P0,← Hyb.out,Hrn.out,Hcy.out,Jl])
  clear hfull
  go_wp2_with fail
  go_ret2
  exact ⟨by rw [← Hfin.out,Hf.out];rfl,Hx2.out⟩
 have Hbad:=Yw (Zpg (s:=s.data.toList) (e:=e) (by rw [Hcy.out];exact hc0))
 have hcd:(code == 0)=false:=by simpa using hc0
 go_wp2_with fail
 go_ret2
 exact ⟨by rw [Hbad.out,Hcy.out];rfl,Hx1.out⟩
def Ztv (w:World) (e:Ending) (w':World):Prop:=∃ cl cp:Int,1≤cl∧cl≤4∧1≤cp∧cp≤6∧e=.returned (.agg #[.int .i64 cl,.int .i64 cp])∧Ext w w'
theorem Zs3 (a:Option Addr) (len cap:Nat) (w:World) (hrow:Gz w a len):Calls Tryz.prog 11 #[.slice a len cap] w (Ztv w):=by
 obtain ⟨A,hA⟩:∃ A,w.heap.size=A:=⟨_,rfl⟩
 have hx0:Ext w (w.alloc (.cells #[.int .i64 0,.int .i64 0] 37)):=(Yl w).alloc _
 have hsrc:=Kj (cap:=cap) hrow hx0
 have c0:((w.alloc (.cells #[.int .i64 0,.int .i64 0] 37)).alloc (.cells #[.slice a len cap,.int .i64 0] 165)).cell? ⟨w.heap.size,0,none⟩=some (.int .i64 0):=by go_simp
 have c1:((w.alloc (.cells #[.int .i64 0,.int .i64 0] 37)).alloc (.cells #[.slice a len cap,.int .i64 0] 165)).cell? ⟨w.heap.size,1,none⟩=some (.int .i64 0):=by go_simp
 have cf:∀ i,((w.alloc (.cells #[.int .i64 0,.int .i64 0] 37)).alloc (.cells #[.slice a len cap,.int .i64 0] 165)).frozen? ⟨w.heap.size,i,none⟩=false:=fun i=>by go_simp
 have hs:((w.alloc (.cells #[.int .i64 0,.int .i64 0] 37)).alloc (.cells #[.slice a len cap,.int .i64 0] 165)).heap.size=w.heap.size+2:=by simp
 have e1:(w.alloc (.cells #[.int .i64 0,.int .i64 0] 37)).heap.size=w.heap.size+1:=by simp
 rw [e1] at hsrc
 have hx:Ext w ((w.alloc (.cells #[.int .i64 0,.int .i64 0] 37)).alloc (.cells #[.slice a len cap,.int .i64 0] 165)):=hx0.alloc _
 have Hs:=Yw (And.intro hsrc (And.intro c0 (And.intro c1 (And.intro cf (And.intro hs hx)))))
 clear hsrc c0 c1 cf hs e1 hx hx0 hrow
 go_enter Tryz.func11,Tryz.ntmps11
 go_wp2_with fail
 refine (Nf _ _ _ _).mono ?_
 rintro e w0 ⟨rfl,rfl⟩
 obtain ⟨hsrc,c0,c1,cf,hs,hx⟩:=Hs.out
 rw [hA] at c0 c1 cf hs hsrc
 have Hx:=Yw hx
 have Hsrc:=Yw hsrc
 have HA:=Yw hA
 obtain ⟨W,hW⟩:∃ W,(w.alloc (.cells #[.int .i64 0,.int .i64 0] 37)).alloc (.cells #[.slice a len cap,.int .i64 0] 165)=W:=⟨_,rfl⟩
 rw [hW] at c0 c1 cf hs Hx Hsrc
 clear hx hsrc Hs
 go_wp2_with fail
 refine (next_any _ _ (by omega) (by omega) _ _ Hsrc.out).mono ?_
 rintro e w2 ⟨x,hx,rfl,hsrc2,hc2,hz2⟩
 have c0:=(hc2.cell (p:=⟨A,0,none⟩) (by simp only;omega) (by simp only;omega)).trans c0
 have c1:=(hc2.cell (p:=⟨A,1,none⟩) (by simp only;omega) (by simp only;omega)).trans c1
 have cf:=fun i=>(hc2.frozen (p:=⟨A,i,none⟩) (by simp only;omega) (by simp only;omega)).trans (cf i)
 have Hx2:=Yw (Hx.out.chg_new hc2 fun i hi=>by have:=HA.out;omega)
 have Hsrc2:=Yw hsrc2
 have hz:A+2≤w2.heap.size:=by omega
 have p0:(0:Int)≤(x:Int):=by omega
 clear hsrc2 hc2 hz2 Hsrc Hx hW hs hA
 go_wp2_with fail
 refine (next_any _ _ (by omega) (by omega) _ _ Hsrc2.out).mono ?_
 rintro e w3 ⟨y,hy,rfl,hsrc3,hc3,hz3⟩
 have c0:=(hc3.cell (p:=⟨A,0,none⟩) (by simp only;omega) (by simp only;omega)).trans c0
 have c1:=(hc3.cell (p:=⟨A,1,none⟩) (by simp only;omega) (by simp only;omega)).trans c1
 have cf:=fun i=>(hc3.frozen (p:=⟨A,i,none⟩) (by simp only;omega) (by simp only;omega)).trans (cf i)
 have Hx3:=Yw (Hx2.out.chg_new hc3 fun i hi=>by have:=HA.out;omega)
 have p1:(0:Int)≤(y:Int):=by omega
 have hz:A+2≤w3.heap.size:=by omega
 clear hsrc3 hc3 hz3 Hsrc2 Hx2
 go_wp2_with fail
 refine Yt (v:=.agg #[.int .i64 (1+(x:Int)),.int .i64 (1+(y:Int))]) (by simp [results,Tryz.results11,go_sem, *]) rfl ⟨1+(x:Int),1+(y:Int),by omega,by omega,by omega,by omega,rfl,?_⟩
 (repeat refine Ya ?_ (by have:=HA.out;simp only;omega) _)
 exact Hx3.out
theorem Zrz {cl cap:Int} (h1:1≤cl) (h2:cl≤4) (h3:1≤cap) (h4:cap≤6):Um cl cap=0:=by unfold Um;rw [if_neg (by omega)]
theorem Zyu (va vb:Value) (l:List Nm) (S T:Nat→Prop) (w:World) (ha:Wq w S va l) (hb:Wq w T vb l) :
 Calls Tryz.prog 53 #[va,vb] w fun e w'=>e=.returned (.bool true)∧Ext w w':=by
 obtain ⟨A,ca,rfl⟩:=ha.shape
 obtain ⟨B,cb,rfl⟩:=hb.shape
 have hlm:=ha.len
 unfold maxLen at hlm
 have Ha:=Yw ha
 have Hb:=Yw hb
 clear ha hb
 go_enter Tryz.func53,Tryz.ntmps53
 go_wp2_with fail
 go_loopw [13] (fun o wr=>∃ i:Nat,i≤l.length∧o=.int .i64 (i:Int)∧Ext w wr) (fun o _=>l.length - (intOf o).toNat)
 case atStart=>exact ⟨0,by omega,rfl,Yl _⟩
 obtain ⟨i,hi,rfl,hx⟩:=hrel
 have Hx:=Yw hx
 clear hx
 by_cases hin:i < l.length
 ·have hd:decide ((i:Int) < (l.length:Int))=true:=by simpa using hin
  obtain ⟨g,o,c',hv,p1,p2,_,_,hcell⟩:=(Ha.out.ext Hx.out).get (j:=i) hin
  obtain ⟨g',o',c'',hv',p3,p4,_,_,hcell'⟩:=(Hb.out.ext Hx.out).get (j:=i) hin
  simp only [Ye,true_and] at hv hv'
  obtain ⟨rfl,rfl⟩:=hv
  obtain ⟨rfl,rfl⟩:=hv'
  obtain ⟨a,hae⟩:∃ a,l[i]?=some a:=⟨l[i],by simp [hin]⟩
  obtain ⟨x1,x2,x3⟩:=hcell _ _ hae
  obtain ⟨y1,y2,y3⟩:=hcell' _ _ hae
  have i0:(0:Int)≤(i:Int):=by omega
  have i1:(i:Int) < (l.length:Int):=by omega
  unfold maxLen at p2 p4
  clear hcell hcell' hae
  go_wp2_with fail
  go_quiet (fail)
  go_wp2_with fail
  go_roundw
  case rel=>exact ⟨i+1,by omega,by go_num,Hx.out.drewN _⟩
  case measure=>simp [intOf];omega
 have hd:decide ((i:Int) < (l.length:Int))=false:=by simp;omega
 go_wp2_with fail
 go_ret
 exact ⟨rfl,Hx.out⟩
theorem V7.get {w:World} {S:Nat→Prop} {v:Value} {l:List (Ent×Value)} (h:V7 w S v l) {j:Nat} (hj:j < l.length) :
 ∃ g o c,v=.slice (some ⟨g,o,none⟩) l.length c∧l.length≤c∧c≤maxLen∧S g∧g < w.heap.size∧∀ p,l[j]?=some p →
  w.cell? ⟨g,o+j * 5,none⟩=some (.int .i64 p.1.cl)∧w.cell? ⟨g,o+j * 5+1,none⟩=some (.int .i64 p.1.op)∧w.cell? ⟨g,o+j * 5+2,none⟩=some (.int .i64 p.1.ttl)∧w.cell? ⟨g,o+j * 5+3,none⟩=some (.int .i64 p.1.tick)∧w.cell? ⟨g,o+j * 5+4,none⟩=some p.2∧Wq w S p.2 p.1.names:=by
 obtain ⟨g,o,c,hv,h1,h2,h3,h4,hc⟩:=h.1.at_ hj
 refine ⟨g,o,c,hv,h1,h2,h3,h4,fun p hp=>?_⟩
 have q0:=hc (j * 5) (.int .i64 p.1.cl) (by have:=V0 hp 0 (by omega);simpa [Vm] using this)
 have q1:=hc (j * 5+1) (.int .i64 p.1.op) (by have:=V0 hp 1 (by omega);simpa [Vm] using this)
 have q2:=hc (j * 5+2) (.int .i64 p.1.ttl) (by have:=V0 hp 2 (by omega);simpa [Vm] using this)
 have q3:=hc (j * 5+3) (.int .i64 p.1.tick) (by have:=V0 hp 3 (by omega);simpa [Vm] using this)
 have q4:=hc (j * 5+4) p.2 (by have:=V0 hp 4 (by omega);simpa [Vm] using this)
 rw [← Nat.add_assoc] at q1 q2 q3 q4
 exact ⟨q0,q1,q2,q3,q4,h.2 p (Zy hp)⟩
theorem V7.shape {w:World} {S:Nat→Prop} {v:Value} {l:List (Ent×Value)} (h:V7 w S v l):∃ A c,v=.slice A l.length c:=by
 obtain ⟨_,A,c,hv,_⟩:=h.1
 exact ⟨A,c,hv⟩
theorem Fu (va vb:Value) (l l':List (Ent×Value)) (he:l.map Prod.fst=l'.map Prod.fst) (S T:Nat→Prop) (w:World) (ha:V7 w S va l) (hb:V7 w T vb l') :
 Calls Tryz.prog 14 #[va,vb] w fun e w'=>e=.returned (.bool true)∧Ext w w':=by
 obtain ⟨A,ca,rfl⟩:=ha.shape
 obtain ⟨B,cb,rfl⟩:=hb.shape
 have hlm:=ha.1.len
 unfold maxLen at hlm
 have hll:l'.length=l.length:=by have:=congrArg List.length he;simpa using this.symm
 have Ha:=Yw ha
 have Hb:=Yw hb
 have He:=Yw he
 have Hll:=Yw hll
 clear ha hb he
 rw [hll]
 clear hll
 go_enter Tryz.func14,Tryz.ntmps14
 go_wp2_with fail
 go_loopw [15] (fun o wr=>∃ i:Nat,i≤l.length∧o=.int .i64 (i:Int)∧Ext w wr) (fun o _=>l.length - (intOf o).toNat)
 case atStart=>exact ⟨0,by omega,rfl,Yl _⟩
 obtain ⟨i,hi,rfl,hx⟩:=hrel
 have Hx:=Yw hx
 clear hx
 by_cases hin:i < l.length
 ·have hd:decide ((i:Int) < (l.length:Int))=true:=by simpa using hin
  obtain ⟨g,o,c',hv,p1,p2,_,b1,hcell⟩:=(Ha.out.ext Hx.out).get (j:=i) hin
  obtain ⟨g',o',c'',hv',p3,p4,_,b2,hcell'⟩:=(Hb.out.ext Hx.out).get (j:=i) (by rw [Hll.out];exact hin)
  rw [Hll.out] at hv' p3
  simp only [Ye,true_and] at hv hv'
  obtain ⟨rfl,rfl⟩:=hv
  obtain ⟨rfl,rfl⟩:=hv'
  obtain ⟨a,hae⟩:∃ a,l[i]?=some a:=⟨l[i],by simp [hin]⟩
  obtain ⟨a',hae'⟩:∃ a,l'[i]?=some a:=⟨l'[i]'(by rw [Hll.out];exact hin),by simp⟩
  obtain ⟨x1,x2,x3,x4,x5,xn⟩:=hcell _ hae
  obtain ⟨y1,y2,y3,y4,y5,yn⟩:=hcell' _ hae'
  have hee:a'.1=a.1:=by
   have h1:=congrArg (fun z=>z[i]?) He.out
   simp only [Zn,hae,hae',Option.map_some,Yd] at h1
   exact h1.symm
  obtain ⟨e1,u1⟩:=a
  obtain ⟨e2,u2⟩:=a'
  simp only at hee x1 x2 x3 x4 x5 xn y1 y2 y3 y4 y5 yn
  subst hee
  obtain ⟨A2,c2,rfl⟩:=xn.shape
  obtain ⟨B2,c3,rfl⟩:=yn.shape
  have Xn:=Yw xn
  have Yn:=Yw yn
  have i0:(0:Int)≤(i:Int):=by omega
  have i1:(i:Int) < (l.length:Int):=by omega
  unfold maxLen at p2 p4
  clear hcell hcell' hae hae' xn yn
  go_wp2_with fail
  go_region
  all_goals
   go_wp2_with fail
   refine (Zyu _ _ _ _ _ _ (Xn.out.ext (by first|exact (((Yl _).alloc _).alloc _).drew|exact (((Yl _).drew).alloc _).alloc _)) (Yn.out.ext (by first|exact (((Yl _).alloc _).alloc _).drew|exact (((Yl _).drew).alloc _).alloc _))).mono ?_
   rintro e w5 ⟨rfl,hx5⟩
   have Hx5:=Yw (Yh (Yh Hx.out (by first|exact (((Yl _).alloc _).alloc _).drew|exact (((Yl _).drew).alloc _).alloc _)) hx5)
   clear hx5
   go_wp2_with fail
   go_roundw
   case rel=>exact ⟨i+1,by omega,by go_num,Hx5.out⟩
   case measure=>simp [intOf];omega
 have hd:decide ((i:Int) < (l.length:Int))=false:=by simp;omega
 go_wp2_with fail
 go_ret
 exact ⟨rfl,Hx.out⟩
def Zyh (l:List Ent):Prop:=∀ e∈l,(Jd e).1=0
theorem Lc {e:Ent} (h:(Jd e).1=0):(Jd e).2.length≤4200:=Zv2 (x:=(Jd e).2) (Prod.ext h rfl)
theorem Ax:∀ {l:List Ent},Zyh l→(Vo l).length≤4200 * l.length
 | [],_=>by simp [Vo]
 | e::l,h=>by
  have h1:=Lc (h e (by simp))
  have h2:=Ax (l:=l) fun x hx=>h x (by simp [hx])
  rw [Vo,Zs,Zl];omega
theorem Fs {l:List Ent} (h:Zyh l) (hl:l.length≤4096):Kq (Vo l)=(l,(Vo l).length):=by
 have:=Fr l 4096 [] hl h
 rw [Ll Nk] at this
 unfold Kq
 simpa using this
theorem Zxm {l:List Ent} {e:Ent} (h:Zyh l) (hl:l.length≤5) (he:(Jd e).1=0):appJ (Vo l) e=(0,Vo (l++[e])):=by
 have h1:=Fs h (by omega)
 have h2:=Ax h
 have h3:=Lc he
 rw [Zrd he (by rw [h1];simp only;omega),h1]
 simp [Bp,Vo]
theorem Du {v:Int} (h:I64 v):(code v).length≤10:=by unfold I64 at h;exact Vs h.1 h.2
theorem Zrs {s:List UInt8} (h:s.length≤9223372036854775807):(item s).length≤s.length+10:=by
 have:=Vs (v:=(s.length:Int)) (by omega) (by omega)
 rw [item,Zs];omega
theorem Zsj {e:Ent} (h1:I64 e.cl) (h2:I64 e.op) (h3:I64 e.ttl) (h4:I64 e.tick) (h5:e.names.length≤9223372036854775807):(Wn e).length≤50:=by
 have:=Du h1
 have:=Du h2
 have:=Du h3
 have:=Du h4
 have:=Vs (v:=(e.names.length:Int)) (by omega) (by omega)
 unfold Wn
 simp only [Zs];omega
end Go.Proofs.YtnbclgbicnpmnaaGreat
