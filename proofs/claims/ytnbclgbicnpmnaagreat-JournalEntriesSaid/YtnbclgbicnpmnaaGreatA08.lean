/- Lemmas of this claim: Encode, EntryR. Conditions: as named. -/
import Derived.Deep.RegionHeld3
import Derived.Deep.DeepCutAuto
import Derived.Test.YtnbclgbicnpmnaaGreatA02
import Derived.Test.YtnbclgbicnpmnaaGreatA04
namespace Go.Proofs.YtnbclgbicnpmnaaGreat
open Go.RowKit Go.Sort
open List renaming getElem?_eq_getElem → Zz, mem_of_getElem? → Zy, setIfInBounds_toArray → Zv, set_cons_zero → Zu, set_cons_succ → Zt, length_append → Zs, getElem?_eq_some_iff → Zr, not_mem_nil → Zh, mem_cons → Zg, take_add_one → Za
open Lib renaming hid → Yw
open Go renaming wpQuiet_nil → Yu, bodyPost_ret → Yt
open AllReadyH renaming cons → Ys, nil → Yr
open Nat renaming le_refl → Yo
open _root_.ByteArray renaming size_append → Ym
open Ext renaming refl → Yl, drew → Yi
set_option maxHeartbeats 40000000
set_option maxRecDepth 100000
set_option linter.all false
theorem Ad (s:ByteArray):s.size≤(item s.data.toList).length:=by
 rw [item,Zs]
 show s.data.toList.length≤_
 omega
def Gl (e:Ent):List Int:=[e.cl,e.op,e.ttl,e.tick,(e.names.length:Nat)]
def headB (e:Ent) (k:Nat):List UInt8:=((Gl e).take k).flatMap code
theorem Zus (e:Ent):headB e 5=Wn e:=by simp [headB,Gl,Wn]
theorem Lb {e:Ent} {k:Nat} {v:Int} (h:(Gl e)[k]?=some v):headB e (k+1)=headB e k++code v:=by
 unfold headB
 rw [Za,h]
 simp
theorem Pp {e:Ent} (hr:Jx e=true):∀ v∈Gl e,I64 v:=by
 obtain ⟨a1,a2,a3,a4,_,a6,a7,a8,a9⟩:=Ue hr
 have ht:I64 e.ttl:=by
  rcases Ag hr with ⟨_,b1,b2⟩ | ⟨_,b1,b2⟩ | ⟨_,_,b⟩
  ·exact ⟨by omega,by omega⟩
  ·exact ⟨by omega,by omega⟩
  rw [b];exact ⟨by omega,by omega⟩
 intro v hv
 simp only [Gl,Zg,Zh,or_false] at hv
 rcases hv with rfl|rfl|rfl|rfl|rfl
 ·exact ⟨by omega,by omega⟩
 ·exact ⟨by omega,by omega⟩
 ·exact ht
 ·exact ⟨by omega,by omega⟩
 exact ⟨by omega,by omega⟩
theorem Oc {e:Ent} (hr:Jx e=true):∀ k,k≤5→(headB e k).length≤10 * k
 | 0,_=>by simp [headB]
 | k+1,hk=>by
  obtain ⟨v,hv⟩:∃ v,(Gl e)[k]?=some v:=⟨(Gl e)[k]'(by simp [Gl];omega),Zz _⟩
  have h1:=Oc hr k (by omega)
  obtain ⟨b1,b2⟩:=Pp hr v (Zy hv)
  have h2:=Vs b1 b2
  rw [Lb hv,Zs];omega
theorem Ztg {e:Ent} (h:V8 e=0):Jx e=true:=by
 cases hr:Jx e with
 | true=>rfl
 | false=>unfold V8 at h;rw [hr] at h;simp at h
def Q2 (e:Ent) (i:Nat):List UInt8:=Wn e++Xo (e.names.take i)
theorem Fo {e:Ent} {i:Nat} {n:Nm} (h:e.names[i]?=some n):Q2 e (i+1)=Q2 e i++Wg n:=by
 unfold Q2
 rw [Za,h,Qz]
 simp [Xo]
theorem Zyr (e:Ent):Q2 e e.names.length=Wm e:=by simp [Q2,Wm]
theorem Zu6 (e:Ent) (i:Nat):(Q2 e i).length≤(Wm e).length:=by
 have h:e.names.take i++e.names.drop i=e.names:=List.take_append_drop _ _
 have:Wm e=Q2 e i++Xo (e.names.drop i):=by
  unfold Wm Q2
  rw [List.append_assoc,← Qz,h]
 rw [this,Zs];omega
theorem Zpy {e:Ent} (h:V8 e≠0):Jd e=(V8 e,[]):=by unfold Jd;rw [if_pos h]
theorem Zt2 {e:Ent} (h:V8 e=0) (h2:4096 < (Wm e).length):Jd e=(7,[]):=by unfold Jd;rw [if_neg (by simp [h]),if_pos h2]
theorem Zrg {e:Ent} (h:V8 e=0) (h2:¬ 4096 < (Wm e).length):Jd e=(0,Uk (Wm e)):=by unfold Jd;rw [if_neg (by simp [h]),if_neg h2]
theorem Bm (b s:ByteArray) (hb:b.size+s.size+20≤140737488355328) (w:World) :
 Calls Tryz.prog 119 #[.string b,.string s] w fun e w'=>e=.returned (.string (b++bs (item s.data.toList)))∧Ext w w':=by
 have hc:=Vs (v:=(s.size:Int)) (by omega) (by omega)
 have hbs:=Qi (code (s.size:Int))
 have hfin:(b++bs (code (s.size:Int)))++s=b++bs (item s.data.toList):=by
  rw [item,Jl,Sx,ByteArray.append_assoc];rfl
 obtain ⟨b1,hb1⟩:∃ b1,b++bs (code (s.size:Int))=b1:=⟨_,rfl⟩
 have hb1s:b1.size=b.size+(code (s.size:Int)).length:=by rw [← hb1,Ym,hbs]
 have hno:¬ 9223372036854775807 < b1.size+s.size:=by omega
 have Hb1:=Yw hb1
 rw [hb1] at hfin
 have Hfin:=Yw hfin
 clear hb1 hfin hbs
 go_enter Tryz.func119,Tryz.ntmps119
 go_wp2_with (go_at_call 118;refine (Ev b (s.size:Int) ⟨by omega,by omega⟩ (by omega) _).mono ?_;rintro e w1 ⟨rfl,hx⟩;rw [Hb1.out])
 go_ret
 exact ⟨by rw [← Hfin.out];rfl,hx⟩
theorem Ab {S:Nat→Prop} (e:Ent) (v:Value) (w:World) (hn:Wq w S v e.names) (hsz:(Wm e).length+100≤140737488355328) :
 Calls Tryz.prog 81 #[Ui e v] w fun x w'=>x=.returned (.tuple #[.string (bs (Jd e).2),.int .i64 (Jd e).1])∧Ext w w':=by
 obtain ⟨A,c,rfl⟩:=hn.shape
 have hlm:=hn.len
 unfold maxLen at hlm
 have Hn:=Yw hn
 have hx0:Ext w (w.alloc (.cells #[.int .i64 e.cl,.int .i64 e.op,.int .i64 e.ttl,.int .i64 e.tick,.slice A e.names.length c] 83)):=(Yl w).alloc _
 have kl:w.heap.size < (w.alloc (.cells #[.int .i64 e.cl,.int .i64 e.op,.int .i64 e.ttl,.int .i64 e.tick,.slice A e.names.length c] 83)).heap.size:=by simp
 have k0:(w.alloc (.cells #[.int .i64 e.cl,.int .i64 e.op,.int .i64 e.ttl,.int .i64 e.tick,.slice A e.names.length c] 83)).cell? ⟨w.heap.size,0,none⟩=some (.int .i64 e.cl):=by go_simp
 have k1:(w.alloc (.cells #[.int .i64 e.cl,.int .i64 e.op,.int .i64 e.ttl,.int .i64 e.tick,.slice A e.names.length c] 83)).cell? ⟨w.heap.size,1,none⟩=some (.int .i64 e.op):=by go_simp
 have k2:(w.alloc (.cells #[.int .i64 e.cl,.int .i64 e.op,.int .i64 e.ttl,.int .i64 e.tick,.slice A e.names.length c] 83)).cell? ⟨w.heap.size,2,none⟩=some (.int .i64 e.ttl):=by go_simp
 have k3:(w.alloc (.cells #[.int .i64 e.cl,.int .i64 e.op,.int .i64 e.ttl,.int .i64 e.tick,.slice A e.names.length c] 83)).cell? ⟨w.heap.size,3,none⟩=some (.int .i64 e.tick):=by go_simp
 have k4:(w.alloc (.cells #[.int .i64 e.cl,.int .i64 e.op,.int .i64 e.ttl,.int .i64 e.tick,.slice A e.names.length c] 83)).cell? ⟨w.heap.size,4,none⟩=some (.slice A e.names.length c):=by go_simp
 have Hx0:=Yw hx0
 have Hk:=Yw (And.intro k0 (And.intro k1 (And.intro k2 (And.intro k3 k4))))
 clear hn k0 k1 k2 k3 k4 hx0
 obtain ⟨w0,hw0⟩:∃ w0,w.alloc (.cells #[.int .i64 e.cl,.int .i64 e.op,.int .i64 e.ttl,.int .i64 e.tick,.slice A e.names.length c] 83)=w0:=⟨_,rfl⟩
 obtain ⟨eb,heb⟩:∃ eb,w.heap.size=eb:=⟨_,rfl⟩
 rw [hw0] at kl Hx0 Hk
 rw [heb] at kl Hk
 have Hn0:=Yw (Hn.out.ext Hx0.out)
 by_cases hck:V8 e=0
 ·have hr:=Ztg hck
  have Hck:=Yw hck
  have Hr:=Yw hr
  obtain ⟨p0,p1,p2,p3,p4⟩:=Hk.out
  unfold Ui
  clear hck hr
  go_enter Tryz.func81,Tryz.ntmps81
  go_wp2_with fail
  refine (Mq e _ _ Hn0.out).mono ?_
  rintro x w1 ⟨rfl,hx1⟩
  rw [Hck.out]
  have q0:=(hx1.cell (p:=⟨eb,0,none⟩) kl).trans p0
  have q1:=(hx1.cell (p:=⟨eb,1,none⟩) kl).trans p1
  have q2:=(hx1.cell (p:=⟨eb,2,none⟩) kl).trans p2
  have q3:=(hx1.cell (p:=⟨eb,3,none⟩) kl).trans p3
  have q4:=(hx1.cell (p:=⟨eb,4,none⟩) kl).trans p4
  have kl1:=Nat.lt_of_lt_of_le kl hx1.size
  have Hx1:=Yw (Hx0.out.trans hx1)
  have Hn1:=Yw (Hn0.out.ext hx1)
  clear hx1 p0 p1 p2 p3 p4 hw0 Hk Hx0 Hn0
  go_wp2_with fail
  have hcs:∀ k hv,(Gl e)[k]?=some hv→(w1.alloc (.cells #[.int .i64 e.cl,.int .i64 e.op,.int .i64 e.ttl,.int .i64 e.tick,.int .i64 (e.names.length:Nat)] 3)).cell? ⟨w1.heap.size,k,none⟩=some (.int .i64 hv):=fun k hv h=>by
   have hk5:k < 5:=by have:=(Zr.1 h).1;simpa [Gl] using this
   rcases (show k=0∨k=1∨k=2∨k=3∨k=4 by omega) with rfl|rfl|rfl|rfl|rfl<;>simp [Gl] at h<;>subst h<;>go_simp
  have hxa:Ext w1 (w1.alloc (.cells #[.int .i64 e.cl,.int .i64 e.op,.int .i64 e.ttl,.int .i64 e.tick,.int .i64 (e.names.length:Nat)] 3)):=(Yl w1).alloc _
  have hbl:w1.heap.size < (w1.alloc (.cells #[.int .i64 e.cl,.int .i64 e.op,.int .i64 e.ttl,.int .i64 e.tick,.int .i64 (e.names.length:Nat)] 3)).heap.size:=by simp
  have Hcs:=Yw hcs
  have Hxa:=Yw hxa
  clear hcs hxa
  go_loopw [5,28] (fun o i wr=>∃ k:Nat,k≤5∧i=.int .i64 (k:Int)∧o=.string (bs (headB e k))∧Ext w wr∧Ext (w1.alloc (.cells #[.int .i64 e.cl,.int .i64 e.op,.int .i64 e.ttl,.int .i64 e.tick,.int .i64 (e.names.length:Nat)] 3)) wr) (fun _ i _=>5 - (intOf i).toNat)
  case atStart=>exact ⟨0,by omega,rfl,rfl,Hx1.out.trans Hxa.out,Yl _⟩
  obtain ⟨k,hk5,rfl,rfl,hxr,hxq⟩:=hrel
  have Hxr:=Yw hxr
  have Hxq:=Yw hxq
  clear hxr hxq
  by_cases hk:k < 5
  ·have hd:decide ((k:Int) < 5)=true:=by simp;omega
   obtain ⟨hv,hhv⟩:∃ hv,(Gl e)[k]?=some hv:=⟨(Gl e)[k]'(by simp [Gl];omega),Zz _⟩
   have Hi:=Yw (Pp Hr.out hv (Zy hhv))
   have hln:=Oc Hr.out k (by omega)
   have Hstep:=Yw (show bs (headB e k)++bs (code hv)=bs (headB e (k+1)) by rw [Lb hhv,Jl])
   have hbsz:=Qi (headB e k)
   have hcell:=(Hxq.out.cell (p:=⟨w1.heap.size,k,none⟩) hbl).trans (Hcs.out k hv hhv)
   have r0:(0:Int)≤(k:Int):=by omega
   have r1:(k:Int) < 5:=by omega
   clear hhv
   go_wp2_with fail
   refine (Ev (bs (headB e k)) hv Hi.out (by rw [hbsz];omega) _).mono ?_
   rintro x w3 ⟨rfl,hx3⟩
   rw [Hstep.out]
   have X3:=Yw (Hxr.out.trans hx3)
   have Q3:=Yw (Hxq.out.trans hx3)
   clear hx3
   go_wp2_with fail
   go_roundw
   case rel=>exact ⟨k+1,by omega,by go_num,rfl,X3.out,Q3.out⟩
   case measure=>simp [intOf];omega
  have hke:k=5:=by omega
  have hd:decide ((k:Int) < 5)=false:=by simp;omega
  have q4:=(Hxq.out.cell (p:=⟨eb,4,none⟩) (Nat.lt_of_lt_of_le kl1 Hxa.out.size)).trans ((Hxa.out.cell (p:=⟨eb,4,none⟩) kl1).trans q4)
  clear Hxq
  have Hxe:=Yw Hxr.out
  clear Hxr
  have Hb0:=Yw (show bs (headB e k)=bs (Q2 e 0) by rw [hke,Zus];simp [Q2,Xo])
  rw [Hb0.out]
  clear Hb0 hke
  go_wp2_with fail
  go_loopw [5,39] (fun o i wr=>∃ k:Nat,k≤e.names.length∧i=.int .i64 (k:Int)∧o=.string (bs (Q2 e k))∧Ext w wr) (fun _ i _=>e.names.length - (intOf i).toNat)
  case atStart=>exact ⟨0,by omega,rfl,rfl,Hxe.out⟩
  clear Hxe
  obtain ⟨i,hil,rfl,rfl,hxr⟩:=hrel
  have Hxr:=Yw hxr
  clear hxr
  by_cases hlt:i < e.names.length
  ·have hd2:decide ((i:Int) < (e.names.length:Int))=true:=by simpa using hlt
   obtain ⟨g,o,c',hv,hc1,hc2,_,hg,hcell⟩:=(Hn.out.ext Hxr.out).get (j:=i) hlt
   simp only [Ye,true_and] at hv
   obtain ⟨rfl,rfl⟩:=hv
   obtain ⟨n,hnm⟩:∃ n,e.names[i]?=some n:=⟨e.names[i],by simp [hlt]⟩
   obtain ⟨c0,c1,c2⟩:=hcell _ _ hnm
   have hle:=Zu6 e (i+1)
   rw [Fo hnm,Zs,Wg,Zs,Zs] at hle
   have sa:=Ad n.a
   have su:=Ad n.u
   have sk:=Ad n.k
   have hstep:=Yw (show ((bs (Q2 e i)++bs (item n.a.data.toList))++bs (item n.u.data.toList))++bs (item n.k.data.toList)=bs (Q2 e (i+1)) by rw [Fo hnm,Wg];simp only [Jl,ByteArray.append_assoc])
   obtain ⟨b0,hb0⟩:∃ b0,bs (Q2 e i)=b0:=⟨_,rfl⟩
   obtain ⟨b1,hb1⟩:∃ b1,b0++bs (item n.a.data.toList)=b1:=⟨_,rfl⟩
   obtain ⟨b2,hb2⟩:∃ b2,b1++bs (item n.u.data.toList)=b2:=⟨_,rfl⟩
   obtain ⟨b3,hb3⟩:∃ b3,b2++bs (item n.k.data.toList)=b3:=⟨_,rfl⟩
   have z0:b0.size=(Q2 e i).length:=by rw [← hb0,Qi]
   have z1:b1.size=b0.size+(item n.a.data.toList).length:=by rw [← hb1,Ym,Qi]
   have z2:b2.size=b1.size+(item n.u.data.toList).length:=by rw [← hb2,Ym,Qi]
   rw [hb0,hb1,hb2,hb3] at hstep
   rw [hb0]
   have T1:=Yw (fun w'=>Bm b0 n.a (by omega) w')
   have T2:=Yw (fun w'=>Bm b1 n.u (by omega) w')
   have T3:=Yw (fun w'=>Bm b2 n.k (by omega) w')
   rw [hb1] at T1
   rw [hb2] at T2
   rw [hb3] at T3
   have r0:(0:Int)≤(i:Int):=by omega
   have r1:(i:Int) < (e.names.length:Int):=by omega
   have r2:c≤9223372036854775807:=by unfold maxLen at hc2;omega
   obtain ⟨nb,hnb⟩:∃ nb,wr.heap.size=nb:=⟨_,rfl⟩
   have Hxa:=Yw (Hxr.out.alloc (.cells #[.string n.a,.string n.u,.string n.k] 109))
   have m0:(wr.alloc (.cells #[.string n.a,.string n.u,.string n.k] 109)).cell? ⟨nb,0,none⟩=some (.string n.a):=by rw [← hnb];go_simp
   have m1:(wr.alloc (.cells #[.string n.a,.string n.u,.string n.k] 109)).cell? ⟨nb,1,none⟩=some (.string n.u):=by rw [← hnb];go_simp
   have m2:(wr.alloc (.cells #[.string n.a,.string n.u,.string n.k] 109)).cell? ⟨nb,2,none⟩=some (.string n.k):=by rw [← hnb];go_simp
   have ml:nb < (wr.alloc (.cells #[.string n.a,.string n.u,.string n.k] 109)).heap.size:=by rw [← hnb];simp
   clear hcell hnm hb0 hb1 hb2 hb3 z0 z1 z2 sa su sk hle
   go_wp2_with fail
   have mm0:∀ k os,(later (wr.alloc (.cells #[.string n.a,.string n.u,.string n.k] 109)) k os).cell? ⟨nb,0,none⟩=some (.string n.a):=fun k os=>(Qe _ k os nb 0 ml).trans m0
   have mm1:∀ k os,(later (wr.alloc (.cells #[.string n.a,.string n.u,.string n.k] 109)) k os).cell? ⟨nb,1,none⟩=some (.string n.u):=fun k os=>(Qe _ k os nb 1 ml).trans m1
   have mm2:∀ k os,(later (wr.alloc (.cells #[.string n.a,.string n.u,.string n.k] 109)) k os).cell? ⟨nb,2,none⟩=some (.string n.k):=fun k os=>(Qe _ k os nb 2 ml).trans m2
   refine Y0 (by kernel_rfl) (by kernel_rfl) ?_
   repeat (quiet_step (first|(go_at_call 119;with_reducible exact Y8 (T1.out _))|(go_at_call 119;with_reducible exact Y8 (T2.out _))|(go_at_call 119;with_reducible exact Y8 (T3.out _))))
   (with_reducible refine Yu ?_);intro w1 hy
   have X6:=Yw (Hxa.out.trans hy)
   clear hy
   go_wp2_with fail
   go_roundw
   case rel=>exact ⟨i+1,by omega,by go_num,by rw [hstep.out],X6.out⟩
   case measure=>simp [intOf];omega
  have hie:i=e.names.length:=by omega
  subst hie
  have hd2:decide ((e.names.length:Int) < (e.names.length:Int))=false:=by simp
  rw [Zyr]
  have hbs:=Qi (Wm e)
  have Hsum:=Yw (Zto (bs (Wm e)))
  have hsb:=Mj (bs (Wm e))
  obtain ⟨bd,hbd⟩:∃ bd,bs (Wm e)=bd:=⟨_,rfl⟩
  rw [hbd] at hbs hsb
  rw [hbd]
  have Hbd:=Yw hbd
  clear hbd
  by_cases hbig:4096 < (Wm e).length
  ·have hd3:decide (4096 < (bd.size:Int))=true:=by simp;omega
   have hd4:4096 < bd.size:=by omega
   have Hfull:=Yw (Zt2 Hck.out hbig)
   clear hbig
   go_wp2_with fail
   go_ret2
   exact ⟨by rw [Hfull.out];rfl,Hxr.out⟩
  have hd3:decide (4096 < (bd.size:Int))=false:=by simp;omega
  have hd4:¬ 4096 < bd.size:=by omega
  have Hok:=Yw (Zrg Hck.out hbig)
  have hem:(⟨#[]⟩:ByteArray).size=0:=rfl
  have Ht:=Yw (fun w'=>Bm ⟨#[]⟩ bd (by omega) w')
  have hib:=Vs (v:=((bd.data.toList.length:Nat):Int)) (by omega) (by have:bd.data.toList.length=bd.size:=rfl;omega)
  obtain ⟨b1,hb1⟩:∃ b1,(⟨#[]⟩:ByteArray)++bs (item bd.data.toList)=b1:=⟨_,rfl⟩
  have z1:b1.size≤bd.size+10:=by
   have:bd.data.toList.length=bd.size:=rfl
   rw [← hb1,Ym,Qi,item,Zs,hem];omega
  have Hfin:=Yw (show b1++bs (code (Zxx bd))=bs (Uk (Wm e)) by
   rw [← hb1,Uk,Jl,← Hbd.out]
   have e1:((Zx2 (Wm e):Nat):Int)=Zxx (bs (Wm e)):=Hsum.out
   rw [e1]
   simp;rfl)
  rw [hb1] at Ht
  have hm:bd.size≤maxLen:=by unfold maxLen;omega
  clear hbig hb1 hib
  go_wp2_with fail
  refine (Ht.out _).mono ?_
  rintro x w4 ⟨rfl,hx4⟩
  have X4:=Yw (Hxr.out.trans hx4)
  clear hx4
  go_wp2_with fail
  refine (sum_any bd _ hm).mono ?_
  rintro x w5 ⟨rfl,hx5⟩
  have X5:=Yw (X4.out.trans hx5)
  clear hx5
  go_wp2_with fail
  refine (Ev b1 (Zxx bd) ⟨by omega,by omega⟩ (by omega) _).mono ?_
  rintro x w6 ⟨rfl,hx6⟩
  rw [Hfin.out]
  have X6:=Yw (X5.out.trans hx6)
  clear hx6
  go_wp2_with fail
  go_ret2
  exact ⟨by rw [Hok.out];rfl,X6.out⟩
 have Hbad:=Yw (Zpy hck)
 have hc0:(V8 e == 0)=false:=by simpa using hck
 obtain ⟨p0,p1,p2,p3,p4⟩:=Hk.out
 unfold Ui
 go_enter Tryz.func81,Tryz.ntmps81
 go_wp2_with fail
 refine (Mq e _ _ Hn0.out).mono ?_
 rintro x w1 ⟨rfl,hx1⟩
 have Hx1:=Yw (Hx0.out.trans hx1)
 clear hx1 p0 p1 p2 p3 p4
 go_wp2_with fail
 go_ret2
 exact ⟨by rw [Hbad.out];rfl,Hx1.out⟩
theorem Dg (s:List UInt8):∀ (n t:Nat) (b:Bool),Vt s (n+1) t b=((Vt s n t b).1++[(Qk s (Vt s n t b).2.1 (Vt s n t b).2.2).1],(Qk s (Vt s n t b).2.1 (Vt s n t b).2.2).2.1,(Qk s (Vt s n t b).2.1 (Vt s n t b).2.2).2.2)
 | 0,t,b=>by simp [Vt]
 | n+1,t,b=>by
  have h:=Dg s n (Qk s t b).2.1 (Qk s t b).2.2
  rw [show Vt s (n+1+1) t b=((Qk s t b).1::(Vt s (n+1) (Qk s t b).2.1 (Qk s t b).2.2).1,(Vt s (n+1) (Qk s t b).2.1 (Qk s t b).2.2).2.1,(Vt s (n+1) (Qk s t b).2.1 (Qk s t b).2.2).2.2) from rfl,h]
  rfl
def Lm (w:World) (eb:Nat) (e:Ent) (v:Value):Prop :=
 eb < w.heap.size∧(∀ i,w.frozen? ⟨eb,i,none⟩=false)∧w.cell? ⟨eb,0,none⟩=some (.int .i64 e.cl)∧w.cell? ⟨eb,1,none⟩=some (.int .i64 e.op)∧w.cell? ⟨eb,2,none⟩=some (.int .i64 e.ttl)∧w.cell? ⟨eb,3,none⟩=some (.int .i64 e.tick)∧w.cell? ⟨eb,4,none⟩=some v
theorem Lm.chg {S:Nat→Prop} {w w':World} {eb:Nat} {e:Ent} {v:Value} (h:Lm w eb e v) (c:Chg S w w') (hb:¬ S eb):Lm w' eb e v:=by
 obtain ⟨h1,h2,h3,h4,h5,h6,h7⟩:=h
 exact ⟨Nat.lt_of_lt_of_le h1 c.size,fun i=>(c.frozen (p:=⟨eb,i,none⟩) h1 hb).trans (h2 i),(c.cell (p:=⟨eb,0,none⟩) h1 hb).trans h3,(c.cell (p:=⟨eb,1,none⟩) h1 hb).trans h4,(c.cell (p:=⟨eb,2,none⟩) h1 hb).trans h5,(c.cell (p:=⟨eb,3,none⟩) h1 hb).trans h6,(c.cell (p:=⟨eb,4,none⟩) h1 hb).trans h7⟩
theorem Lm.ext {w w':World} {eb:Nat} {e:Ent} {v:Value} (h:Lm w eb e v) (x:Ext w w'):Lm w' eb e v:=h.chg (x.chg (fun _=>False)) (fun h=>h)
def Zwn (body:ByteArray) (w:World) (x:Ending) (w':World):Prop :=
 Ext w w'∧((∃ e v,I7 body.data.toList=some e∧x=.returned (.tuple #[Ui e v,.bool true])∧Wq w' (fun k=>w.heap.size≤k) v e.names)∨(I7 body.data.toList=none∧∃ e A n c,x=.returned (.tuple #[Ui e (.slice A n c),.bool false])))
theorem Zum:Tryz.prog.underlying 49=some (.slice 109):=by kernel_rfl
theorem Zx8:(Tryz.prog.info? 109).map (fun i=>(i.zero,i.size,i.bytes))=some (some (.agg #[.string ⟨#[]⟩,.string ⟨#[]⟩,.string ⟨#[]⟩]),3,48):=by kernel_rfl
theorem Zv8 (w:World) (x y z:ByteArray):Rd (w.alloc (.cells #[.string x,.string y,.string z] 109)) (fun _=>True) 3 (.slice (some ⟨w.heap.size,0,none⟩) 1 1) 1 [.string x,.string y,.string z]:=by
 have h1:(w.alloc (.cells #[.string x,.string y,.string z] 109)).heap[w.heap.size]?=some (.cells #[.string x,.string y,.string z] 109):=heap_alloc_new w _
 refine ⟨by simp,_,_,rfl,Yo _,by unfold maxLen;omega,fun _=>⟨_,_,rfl,trivial,(Array.getElem?_eq_some_iff.1 h1).1,fun j u hu=>?_⟩⟩
 simp only [World.cell?,h1]
 rw [Nat.zero_add,← hu]
 simp
structure NSt (w w':World) (cb rb:Nat) (body:ByteArray) (t:Nat) (b:Bool):Prop where
 rdr:Jz w' rb body t b
 res:Lm w' cb ⟨0,0,0,0,[]⟩ (.slice none 0 0)
 ext:Ext w w'
 le:t≤body.size
theorem NSt.num {w w1 w2:World} {cb rb t t':Nat} {body:ByteArray} {b b':Bool} {v:Int} {e:Ending} (h:NSt w w1 cb rb body t b) (hn:Ul body.data.toList t b=(v,t',b')) (hne:cb≠rb) (hge:w.heap.size≤rb) (hp:Bd rb body t b w1 e w2) :
 e=.returned (.int .i64 v)∧NSt w w2 cb rb body t' b':=by
 unfold Bd at hp
 have hle:=Jq (s:=body.data.toList) (t:=t) (b:=b) h.le
 rw [hn] at hp hle
 obtain ⟨h1,h2,h3⟩:=hp
 exact ⟨h1,h2,h.res.chg h3 hne,h.ext.chg_new h3 (fun i hi=>by subst hi;exact hge),hle.1⟩
theorem NSt.alloc {w w1:World} {cb rb t:Nat} {body:ByteArray} {b:Bool} (h:NSt w w1 cb rb body t b) (o:Obj):NSt w (w1.alloc o) cb rb body t b :=
 ⟨h.rdr.ext ((Yl _).alloc o),h.res.ext ((Yl _).alloc o),h.ext.alloc o,h.le⟩
theorem NSt.text {w w1 w2:World} {cb rb t t':Nat} {body:ByteArray} {b b':Bool} {v:List UInt8} {e:Ending} (h:NSt w w1 cb rb body t b) (hn:Vl body.data.toList t b=(v,t',b')) (hne:cb≠rb) (hge:w.heap.size≤rb) (hp:Ea rb body t b w1 e w2) :
 e=.returned (.string (bs v))∧NSt w w2 cb rb body t' b'∧Chg (· = rb) w1 w2:=by
 unfold Ea at hp
 have hle:=Jv (s:=body.data.toList) (t:=t) (b:=b) h.le
 rw [hn] at hp hle
 obtain ⟨h1,h2,h3⟩:=hp
 exact ⟨h1,⟨h2,h.res.chg h3 hne,h.ext.chg_new h3 (fun i hi=>by subst hi;exact hge),hle.1⟩,h3⟩
theorem NSt.drew {w w1:World} {cb rb t:Nat} {body:ByteArray} {b:Bool} (h:NSt w w1 cb rb body t b):NSt w w1.drew cb rb body t b:=⟨h.rdr,h.res,h.ext.drew,h.le⟩
theorem Chg.grownBy {rb:Nat} {a b:World} (c:Chg (· = rb) a b):a.grownBy b (some rb) :=
 ⟨c.os,c.tape,c.output,c.size,fun k hk hne=>c.block k hk (fun e=>hne (by rw [e]))⟩
theorem Np {rb B z n:Nat} {a b:World} {e:TypeId} {v:Value} {xs:List Value} (h:a.ownsRow B e z v n xs) (c:Chg (· = rb) a b) (hb:rb < B):b.ownsRow B e z v n xs :=
 h.kept c.grownBy (by
  cases hv:v.ownBlock with
  | none=>exact .inl rfl
  | some k=>exact .inr (by have:=(h.lt k hv).1;simp;omega))
structure ESt (w w':World) (cb rb eb B:Nat) (body:ByteArray) (e:Ent) (t0:Nat) (b0:Bool) (k:Nat) (v:Value):Prop where
 num:∃ ns t b,Vt body.data.toList k t0 b0=(ns,t,b)∧NSt w w' cb rb body t b∧w'.ownsRow B 109 3 v k (Xb ns)
 ent:Lm w' eb e v
 big:B≤w'.heap.size
theorem Zu3 (body:ByteArray) (hs:body.size≤140737488355328) (w:World):Calls Tryz.prog 134 #[.string body] w (Zwn body w):=by
 obtain ⟨L,hL⟩:∃ L,body.data.toList=L:=⟨_,rfl⟩
 obtain ⟨v1,t1,b1,h1⟩:∃ v t b,Ul L 0 false=(v,t,b):=⟨_,_,_,rfl⟩
 obtain ⟨v2,t2,b2,h2⟩:∃ v t b,Ul L t1 b1=(v,t,b):=⟨_,_,_,rfl⟩
 obtain ⟨v3,t3,b3,h3⟩:∃ v t b,Ul L t2 b2=(v,t,b):=⟨_,_,_,rfl⟩
 obtain ⟨v4,t4,b4,h4⟩:∃ v t b,Ul L t3 b3=(v,t,b):=⟨_,_,_,rfl⟩
 obtain ⟨v5,t5,b5,h5⟩:∃ v t b,Ul L t4 b4=(v,t,b):=⟨_,_,_,rfl⟩
 have hhead:Qp L=⟨v1,v2,v3,v4,v5,t5,b5⟩:=by unfold Qp;simp only [h1,h2,h3,h4,h5]
 rw [← hL] at h1 h2 h3 h4 h5
 have H1:=Yw h1
 have H2:=Yw h2
 have H3:=Yw h3
 have H4:=Yw h4
 have H5:=Yw h5
 have Hhead:=Yw hhead
 have HL:=Yw hL
 clear h1 h2 h3 h4 h5 hhead hL
 have hst0:NSt w ((w.alloc (.cells #[.int .i64 0,.int .i64 0,.int .i64 0,.int .i64 0,.slice none 0 0] 83)).alloc (.cells #[.string body,.int .i64 0,.bool false] 205)) w.heap.size (w.heap.size+1) body 0 false:=by
  refine ⟨⟨by simp,fun i=>by go_simp,by go_simp,by go_simp,by go_simp⟩,⟨by simp;omega,fun i=>by go_simp,by go_simp,by go_simp,by go_simp,by go_simp,by go_simp⟩,((Yl w).alloc _).alloc _,by omega⟩
 have Hs0:=Yw hst0
 clear hst0
 obtain ⟨cb,hcb⟩:∃ cb,w.heap.size=cb:=⟨_,rfl⟩
 rw [hcb] at Hs0
 have hne:cb≠cb+1:=by omega
 have hge:w.heap.size≤cb+1:=by omega
 go_enter Tryz.func134,Tryz.ntmps134
 go_wp2_with fail
 refine (Qw (cb+1) body 0 false (by omega) hs _ Hs0.out.rdr).mono ?_
 intro x w1 hp
 obtain ⟨rfl,hs1⟩:=Hs0.out.num H1.out hne hge hp
 have Hs1:=Yw hs1
 clear hp hs1 Hs0
 go_wp2_with fail
 refine (Qw (cb+1) body t1 b1 Hs1.out.le hs _ Hs1.out.rdr).mono ?_
 intro x w2 hp
 obtain ⟨rfl,hs2⟩:=Hs1.out.num H2.out hne hge hp
 have Hs2:=Yw hs2
 clear hp hs2 Hs1
 go_wp2_with fail
 refine (Qw (cb+1) body t2 b2 Hs2.out.le hs _ Hs2.out.rdr).mono ?_
 intro x w3 hp
 obtain ⟨rfl,hs3⟩:=Hs2.out.num H3.out hne hge hp
 have Hs3:=Yw hs3
 clear hp hs3 Hs2
 go_wp2_with fail
 refine (Qw (cb+1) body t3 b3 Hs3.out.le hs _ Hs3.out.rdr).mono ?_
 intro x w4 hp
 obtain ⟨rfl,hs4⟩:=Hs3.out.num H4.out hne hge hp
 have Hs4:=Yw (hs4.alloc (.cells #[.int .i64 v1,.int .i64 v2,.int .i64 v3,.int .i64 v4,.slice none 0 0] 83))
 have He4:=Yw (show Lm (w4.alloc (.cells #[.int .i64 v1,.int .i64 v2,.int .i64 v3,.int .i64 v4,.slice none 0 0] 83)) w4.heap.size ⟨v1,v2,v3,v4,[]⟩ (.slice none 0 0) from ⟨by simp,fun i=>by go_simp,by go_simp,by go_simp,by go_simp,by go_simp,by go_simp⟩)
 have hz4:cb+1 < w4.heap.size:=hs4.rdr.1
 clear hp hs4 Hs3
 go_wp2_with fail
 refine (Qw (cb+1) body t4 b4 Hs4.out.le hs _ Hs4.out.rdr).mono ?_
 intro x w5 hp
 obtain ⟨rfl,hs5⟩:=Hs4.out.num H5.out hne hge hp
 have Hs5:=Yw hs5
 have He5:=Yw (He4.out.chg (S:=(· = cb+1)) (by unfold Bd at hp;exact hp.2.2) (by omega))
 obtain ⟨eb,heb⟩:∃ eb,w4.heap.size=eb:=⟨_,rfl⟩
 rw [heb] at He5
 clear hp hs5 Hs4 He4
 by_cases hn5:1≤v5∧v5≤16
 ·obtain ⟨n1,n2⟩:=hn5
  obtain ⟨n,rfl⟩:∃ n:Nat,v5=(n:Int):=⟨v5.toNat,by omega⟩
  have hwf:(decide ((1:Int)≤(n:Int)) && decide ((n:Int)≤16))=true:=by simp;omega
  go_wp2_with (go_at_call 154;refine (Vc _ _ _ _).mono ?_;rintro e' w' ⟨rfl,rfl⟩;rw [hwf])
  have hB:eb < w5.heap.size:=He5.out.1
  have Hest:=Yw (show ESt w w5 cb (cb+1) eb w5.heap.size body ⟨v1,v2,v3,v4,[]⟩ t5 b5 0 (.slice none 0 0) from ⟨⟨[],t5,b5,rfl,Hs5.out,World.ownsRow_nil _ _ _ _⟩,He5.out,Yo _⟩)
  obtain ⟨B,hBe⟩:∃ B,w5.heap.size=B:=⟨_,rfl⟩
  rw [hBe] at Hest hB
  have hcB:cb+1 < eb:=by omega
  clear Hs5 He5 hBe
  go_loopw [26] (fun o wr=>∃ k:Nat,k≤n∧o=.int .i64 (k:Int)∧∃ v,ESt w wr cb (cb+1) eb B body ⟨v1,v2,v3,v4,[]⟩ t5 b5 k v) (fun o _=>n - (intOf o).toNat)
  case atStart=>exact ⟨0,by omega,rfl,_,Hest.out⟩
  clear Hest
  obtain ⟨k,hk,rfl,v,⟨ns,t,b,hns,hst,hown⟩,hent,hbig⟩:=hrel
  obtain ⟨a,c,rfl⟩:=Vw hown
  have Hns:=Yw hns
  have Hst:=Yw hst
  have Hown:=Yw hown
  have Hent:=Yw hent
  clear hns hst hown
  by_cases hlt:k < n
  ·have hd:decide ((k:Int) < (n:Int))=true:=by simpa using hlt
   obtain ⟨x1,s1,d1,g1⟩:∃ v t' b',Vl L t b=(v,t',b'):=⟨_,_,_,rfl⟩
   obtain ⟨x2,s2,d2,g2⟩:∃ v t' b',Vl L s1 d1=(v,t',b'):=⟨_,_,_,rfl⟩
   obtain ⟨x3,s3,d3,g3⟩:∃ v t' b',Vl L s2 d2=(v,t',b'):=⟨_,_,_,rfl⟩
   have Hname:=Yw (show Qk L t b=(⟨bs x1,bs x2,bs x3⟩,s3,d3) by unfold Qk;simp only [g1,g2,g3])
   rw [← HL.out] at g1 g2 g3
   have G1:=Yw g1
   have G2:=Yw g2
   have G3:=Yw g3
   clear g1 g2 g3
   obtain ⟨_,_,_,_,_,_,p4⟩:=hent
   go_wp2_with fail
   refine Lu (S:=fun w'=>w'.cell? ⟨eb,4,none⟩=some (.slice a k c)) 12 12 (by rfl) (by decide) (by kernel_rfl) (by kernel_rfl) ?_ (fun hHeld=>?_)
   ·go_keep
   refine wpAnyH_take (i:=0) (oi:=_) (v:=?_) rfl (by kernel_rfl) (by kernel_rfl) (by kernel_rfl) (fun _ _ _ h=>h) (Or.inl ⟨by rfl,?_⟩) (by assumption) ?_;rotate_left;(focus ((intro w hSw;(try dsimp only at hSw);go_simp);(first|done|(with_reducible rfl))));(try simp only [Act.put]);(try simp only [Zv])
   refine wpAnyH_take (i:=1) (oi:=_) (v:=?_) rfl (by kernel_rfl) (by kernel_rfl) (by kernel_rfl) (fun _ _ _ h=>h) (Or.inl ⟨by rfl,?_⟩) (by assumption) ?_;rotate_left;(focus ((intro w hSw;(try dsimp only at hSw);go_simp);(first|done|(with_reducible rfl))));(try simp only [Act.put]);(try simp only [Zv])
   refine wpAnyH_take (i:=2) (oi:=_) (v:=?_) rfl (by kernel_rfl) (by kernel_rfl) (by kernel_rfl) (fun _ _ _ h=>h) (Or.inl ⟨by rfl,?_⟩) (by assumption) ?_;rotate_left;(focus ((intro w hSw;(try dsimp only at hSw);go_simp);(first|done|(with_reducible rfl))));(try simp only [Act.put]);(try simp only [Zv])
   refine wpAnyH_take (i:=4) (oi:=_) (v:=?_) rfl (by kernel_rfl) (by kernel_rfl) (by kernel_rfl) (fun _ _ _ h=>h) (Or.inl ⟨by rfl,?_⟩) (by assumption) ?_;rotate_left;(focus ((intro w hSw;(try dsimp only at hSw);go_simp);(first|done|(with_reducible rfl))));(try simp only [Act.put]);(try simp only [Zv])
   refine wpAnyH_take (i:=6) (oi:=_) (v:=?_) rfl (by kernel_rfl) (by kernel_rfl) (by kernel_rfl) (fun _ _ _ h=>h) (Or.inl ⟨by rfl,?_⟩) (by assumption) ?_;rotate_left;(focus ((intro w hSw;(try dsimp only at hSw);go_simp);(first|done|(with_reducible rfl))));(try simp only [Act.put]);(try simp only [Zv])
   refine wpAnyH_ready (rs:=[3]) (by kernel_rfl) (by simp) ?_;refine Ys (o:=_) rfl (fun K hK=>?_) Yr;go_simp
   refine (Dw (cb+1) body t b Hst.out.le hs _ Hst.out.drew.rdr).mono ?_
   intro x w6 hp
   obtain ⟨rfl,hs6,hc6⟩:=Hst.out.drew.text G1.out hne hge hp
   have hbig:=Nat.le_trans hbig hc6.size
   have Hs6:=Yw hs6
   have He6:=Yw (Hent.out.chg (w:=wr.drew) hc6 (by omega))
   have Ho6:=Yw (Np (a:=wr.drew) Hown.out.drew hc6 (by omega))
   have p4:=He6.out.2.2.2.2.2.2
   clear hp hs6 hc6 Hst Hent Hown
   (try go_wp2_with fail);refine hK.out _ _ ?_ (fun hHeld=>?_);(focus ((try dsimp only);(first|done|go_keep)));clear hK K;try simp only [Act.put,Zv,Zu,Zt]
   refine wpAnyH_ready (rs:=[5]) (by kernel_rfl) (by simp) ?_;refine Ys (o:=_) rfl (fun K hK=>?_) Yr;go_simp
   refine (Dw (cb+1) body s1 d1 Hs6.out.le hs _ Hs6.out.rdr).mono ?_
   intro x w7 hp
   obtain ⟨rfl,hs7,hc7⟩:=Hs6.out.text G2.out hne hge hp
   have hbig:=Nat.le_trans hbig hc7.size
   have Hs7:=Yw hs7
   have He7:=Yw (He6.out.chg hc7 (by omega))
   have Ho7:=Yw (Np Ho6.out hc7 (by omega))
   have p4:=He7.out.2.2.2.2.2.2
   clear hp hs7 hc7 Hs6 He6 Ho6
   (try go_wp2_with fail);refine hK.out _ _ ?_ (fun hHeld=>?_);(focus ((try dsimp only);(first|done|go_keep)));clear hK K;try simp only [Act.put,Zv,Zu,Zt]
   refine wpAnyH_ready (rs:=[7]) (by kernel_rfl) (by simp) ?_;refine Ys (o:=_) rfl (fun K hK=>?_) Yr;go_simp
   refine (Dw (cb+1) body s2 d2 Hs7.out.le hs _ Hs7.out.rdr).mono ?_
   intro x w8 hp
   obtain ⟨rfl,hs8,hc8⟩:=Hs7.out.text G3.out hne hge hp
   have hbig:=Nat.le_trans hbig hc8.size
   have Hs8:=Yw hs8
   have He8:=Yw (He7.out.chg hc8 (by omega))
   have Ho8:=Yw (Np Ho7.out hc8 (by omega))
   have p4:=He8.out.2.2.2.2.2.2
   clear hp hs8 hc8 Hs7 He7 Ho7
   (try go_wp2_with fail);refine hK.out _ _ ?_ (fun hHeld=>?_);(focus ((try dsimp only);(first|done|go_keep)));clear hK K;try simp only [Act.put,Zv,Zu,Zt]
   refine wpAnyH_take (i:=8) (oi:=_) (v:=?_) rfl (by kernel_rfl) (by kernel_rfl) (by kernel_rfl) (fun _ _ _ h=>h) (Or.inl ⟨by rfl,?_⟩) (by assumption) ?_;rotate_left;(focus ((intro w hSw;(try dsimp only at hSw);go_simp);(first|done|(with_reducible rfl))));(try simp only [Act.put]);(try simp only [Zv])
   refine wpAnyH_ready (rs:=[9]) (by kernel_rfl) (by simp) ?_;refine Ys (o:=_) rfl (fun K hK=>?_) Yr;go_simp
   have hxn:Ext w8 (w8.alloc (.cells #[.string (bs x1),.string (bs x2),.string (bs x3)] 109)):=(Yl w8).alloc _
   have Hs9:=Yw (Hs8.out.alloc (.cells #[.string (bs x1),.string (bs x2),.string (bs x3)] 109))
   have He9:=Yw (He8.out.ext hxn)
   have Ho9:=Yw (Ho8.out.alloc (.cells #[.string (bs x1),.string (bs x2),.string (bs x3)] 109))
   have hrl:=Zv8 w8 (bs x1) (bs x2) (bs x3)
   have p4:=He9.out.2.2.2.2.2.2
   have hbz:B≤(w8.alloc (.cells #[.string (bs x1),.string (bs x2),.string (bs x3)] 109)).heap.size:=by simp;omega
   clear Hs8 He8 Ho8
   (try go_wp2_with fail);refine hK.out _ _ ?_ (fun hHeld=>?_);(focus ((try dsimp only);(first|done|go_keep)));clear hK K;try simp only [Act.put,Zv,Zu,Zt]
   refine wpAnyH_ready (rs:=[10]) (by kernel_rfl) (by simp) ?_
   refine Ys (o:=_) rfl (fun K hK=>?_) Yr
   obtain ⟨i0,hi,hz0,hz1,hz2⟩:=info_parts Zx8
   refine Lw _ (by rfl) (.tmp 29) (.tmp 37) 49 (by rfl) B 109 i0 _ 3 48 Zum hi hz0 hz1 hz2 (by rfl) (by decide) (.slice a k c) k (Xb ns) (by rfl) Ho9.out (fun _=>True) (.slice (some ⟨w8.heap.size,0,none⟩) 1 1) 1 [.string (bs x1),.string (bs x2),.string (bs x3)] (by rfl) hrl (by simp [Value.oneCell']) (by unfold maxLen;omega) (by omega) hbz ?_
   intro v' w10 ha
   have hcg:Chg (fun i=>B≤i) (w8.alloc (.cells #[.string (bs x1),.string (bs x2),.string (bs x3)] 109)) w10:=(Chg.refl _ _).grown ha.grown (fun k hk=>.inl (Ho9.out.lt k hk).1)
   have hs10:NSt w w10 cb (cb+1) body s3 d3:=⟨Hs9.out.rdr.chg hcg (by omega),Hs9.out.res.chg hcg (by omega),Hs9.out.ext.chg_new hcg (fun i hi=>by omega),Hs9.out.le⟩
   have He10:=Yw (He9.out.chg hcg (by omega))
   have Hs10:=Yw hs10
   have Ho10:=Yw ha.own
   have hbig:=Nat.le_trans hbz hcg.size
   have p4:=He10.out.2.2.2.2.2.2
   clear ha hcg hs10 Hs9 He9 Ho9 hrl hbz
   (try go_wp2_with fail);refine hK.out _ _ ?_ (fun hHeld=>?_);(focus ((try dsimp only);(first|done|go_keep)));clear hK K;(try simp only [Act.put]);(try simp only [Zv])
   refine wpAnyH_take (i:=11) (oi:=_) (v:=?_) rfl (by kernel_rfl) (by kernel_rfl) (by kernel_rfl) (fun _ _ _ h=>h) (Or.inl ⟨by rfl,?_⟩) (by assumption) ?_;rotate_left;(focus ((intro w hSw;(try dsimp only at hSw);go_simp);(first|done|(with_reducible rfl))));(try simp only [Act.put]);(try simp only [Zv])
   refine wpAnyH_done (by kernel_rfl) ?_ _
   obtain ⟨a2,c2,hv2⟩:=Vw Ho10.out
   subst hv2
   obtain ⟨e1,e2,e3,e4,e5,e6,e7⟩:=He10.out
   refine Zy4 (o:=_) rfl (by rfl) ?_
   go_simp
   have hcf:Chg (· = eb) w10 (w10.setCell ⟨eb,4,none⟩ (.slice a2 (k+1) c2)):=(Chg.refl (· = eb) w10).setCell (p:=⟨eb,4,none⟩) (.inl rfl) _
   have Hend:=Yw (show ESt w (w10.setCell ⟨eb,4,none⟩ (.slice a2 (k+1) c2)) cb (cb+1) eb B body ⟨v1,v2,v3,v4,[]⟩ t5 b5 (k+1) (.slice a2 (k+1) c2) from
    ⟨⟨ns++[⟨bs x1,bs x2,bs x3⟩],s3,d3,by rw [Dg,Hns.out,HL.out];simp only;rw [Hname.out],⟨Hs10.out.rdr.chg hcf (by omega),Hs10.out.res.chg hcf (by omega),Hs10.out.ext.chg_new hcf (fun i hi=>by subst hi;omega),Hs10.out.le⟩,by rw [Q1];exact Np Ho10.out hcf (by omega)⟩,⟨by simpa [World.setCell] using e1,fun i=>by go_simp,by go_simp,by go_simp,by go_simp,by go_simp,by go_simp⟩,by simpa [World.setCell] using hbig⟩)
   clear hcf e1 e2 e3 e4 e5 e6 e7 Hs10 He10 Ho10
   go_wp2_with fail
   go_roundw
   case rel=>exact ⟨k+1,by omega,by go_num,_,Hend.out⟩
   case measure=>simp [intOf];omega
  have hd:decide ((k:Int) < (n:Int))=false:=by simp;omega
  have hkn:k=n:=by omega
  subst hkn
  obtain ⟨e1,e2,e3,e4,e5,e6,e7⟩:=hent
  obtain ⟨r1,r2,r3,r4,r5⟩:=Hst.out.rdr
  obtain ⟨z1,z2,z3,z4,z5,z6,z7⟩:=Hst.out.res
  have hcw:w.heap.size≤cb:=by omega
  have hne2:¬ cb=eb:=by omega
  have hne3:¬ cb=cb+1:=by omega
  have Hnm:=Yw (show Wq wr (fun i=>B≤i) (.slice a k c) ns from by
   have hl:ns.length=k:=by have:=Bj body.data.toList k t5 b5;rw [Hns.out] at this;exact this
   unfold Wq
   rw [hl]
   exact Rd.of_own Hown.out fun q hq=>(Hown.out.lt q hq).1)
  cases b with
  | true =>
   have Hres:=Yw (show I7 body.data.toList=none by rw [HL.out];unfold I7;rw [Hhead.out];simp only;rw [if_pos ⟨n1,n2⟩,Int.toNat_natCast];rw [← HL.out,Hns.out];rfl)
   go_wp2_with fail
   go_region
   go_wp2_with fail
   exact Yt (v:=.tuple #[Ui ⟨v1,v2,v3,v4,ns⟩ (.slice a k c),.bool false]) (by simp [results,Tryz.results134,go_sem,Ui, *]) rfl ⟨by repeat (first|exact Hst.out.ext|apply Yi|(refine Ya ?_ hcw _)),.inr ⟨Hres.out,_,_,_,_,rfl⟩⟩
  | false =>
   have Hres:=Yw (show I7 body.data.toList=some ⟨v1,v2,v3,v4,ns⟩ by rw [HL.out];unfold I7;rw [Hhead.out];simp only;rw [if_pos ⟨n1,n2⟩,Int.toNat_natCast];rw [← HL.out,Hns.out];rfl)
   go_wp2_with fail
   go_region
   go_wp2_with fail
   exact Yt (v:=.tuple #[Ui ⟨v1,v2,v3,v4,ns⟩ (.slice a k c),.bool true]) (by simp [results,Tryz.results134,go_sem,Ui, *]) rfl ⟨by repeat (first|exact Hst.out.ext|apply Yi|(refine Ya ?_ hcw _)),.inl ⟨_,_,Hres.out,rfl,(Rd.chg Hnm.out (T:=(· = cb)) (by repeat (first|exact Chg.refl _ _|apply Chg.drew|(refine Chg.setCell ?_ (.inl (by simp)) _))) (fun q hq e=>by omega)).mono (fun q hq _=>by omega)⟩⟩
 have hwf:(decide ((1:Int)≤v5) && decide (v5≤16))=false:=by simp;omega
 have Hnone:=Yw (show I7 body.data.toList=none by rw [HL.out];unfold I7;rw [Hhead.out];simp only;rw [if_neg hn5])
 obtain ⟨g1,g2,c0,c1,c2,c3,c4⟩:=Hs5.out.res
 have hcw:w.heap.size≤cb:=by omega
 clear hn5
 go_wp2_with (go_at_call 154;refine (Vc _ _ _ _).mono ?_;rintro e' w' ⟨rfl,rfl⟩;rw [hwf])
 exact Yt (v:=.tuple #[Ui ⟨0,0,0,0,[]⟩ (.slice none 0 0),.bool false]) (by simp [results,Tryz.results134,go_sem,Ui, *]) rfl ⟨by repeat (first|exact Hs5.out.ext|(refine Ya ?_ (by simp;omega) _)),.inr ⟨Hnone.out,_,_,_,_,rfl⟩⟩
end Go.Proofs.YtnbclgbicnpmnaaGreat
