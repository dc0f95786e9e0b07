/- Lemmas of this claim: Ground. Conditions: as named. -/
import Derived.BigQuiet
import Derived.Deep.DeepCutAuto
import Derived.Deep.QuietTactic
import Derived.Deep.RegionHeld3
import Derived.Laws.IdiomStrings
import Derived.Lib.Hide
import Derived.Maps.AppendAt
import Derived.Maps.OwnSet
import Derived.OwnWalk
import Derived.RegionTactic
import Derived.Sort.Grow
import Derived.Test.YtnbclgbicnpmnaaGreatProg
import Derived.WalkKit
import Derived.WalkLawsBesides
import Derived.WalkSpells
namespace Go.Proofs.YtnbclgbicnpmnaaGreat
open Go.RowKit Go.Sort
open List renaming getElem?_eq_getElem → Zz, length_append → Zs, length_take → Zp, nil_append → Zo, length_cons → Zl, mem_cons → Zg, getElem?_append_left → Ze, getElem?_append_right → Zd, length_drop → Z8
open Lib renaming hid → Yw
open Nat renaming le_refl → Yo
set_option maxHeartbeats 40000000
set_option maxRecDepth 100000
set_option linter.all false
section
def later (w:World) (d:Nat) (os:Array Obj):World:={heap:=w.heap++os,tape:=w.tape,drawn:=d,os:=w.os,output:=w.output}
theorem Fy (w:World) (d d':Nat) (os os':Array Obj):later (later w d os) d' os'=later w d' (os++os'):=by simp [later,Array.append_assoc]
theorem Jn (w:World) (d:Nat):later w d #[]={w with drawn:=d}:=by simp [later]
theorem Zzu (w:World) (d:Nat) (os:Array Obj):(later w d os).heap.size=w.heap.size+os.size:=by simp [later]
theorem Fg (w:World) (d:Nat) (os:Array Obj) {k:Nat} (h:k < w.heap.size):(later w d os).heap[k]?=w.heap[k]?:=by simp [later,Array.getElem?_append,h]
def Ext (w w':World):Prop:=∃ (d:Nat) (os:Array Obj),w'=later w d os
theorem Ext.refl (w:World):Ext w w:=⟨w.drawn,#[],by rw [Jn]⟩
theorem Ext.trans {a b c:World} (h:Ext a b) (k:Ext b c):Ext a c:=by
 obtain ⟨n,os,rfl⟩:=h
 obtain ⟨m,os',rfl⟩:=k
 exact ⟨m,os++os',Fy _ _ _ _ _⟩
theorem Ext.drew {a w:World} (h:Ext a w):Ext a w.drew:=h.trans ⟨w.drawn+1,#[],by rw [Jn];rfl⟩
theorem Ext.drewN {a w:World} (h:Ext a w) (n:Nat):Ext a (w.drewN n):=h.trans ⟨w.drawn+n,#[],by rw [Jn];rfl⟩
theorem Ext.alloc {a w:World} (h:Ext a w) (o:Obj):Ext a (w.alloc o):=h.trans ⟨w.drawn,#[o],by unfold World.alloc later;rw [Array.append_singleton]⟩
theorem Ext.size {a w:World} (h:Ext a w):a.heap.size≤w.heap.size:=by
 obtain ⟨n,os,rfl⟩:=h
 rw [Zzu];omega
theorem Ext.block {a w:World} (h:Ext a w) {k:Nat} (hk:k < a.heap.size):w.heap[k]?=a.heap[k]?:=by
 obtain ⟨n,os,rfl⟩:=h
 exact Fg _ _ _ hk
theorem Ext.below {a w:World} (h:Ext a w):Below a.heap.size a w:=by
 have hs:=h.size
 have hb:∀ k,k < a.heap.size→w.heap[k]?=a.heap[k]?:=fun k hk=>h.block hk
 obtain ⟨n,os,rfl⟩:=h
 exact ⟨rfl,rfl,rfl,hs,hb⟩
theorem Ext.cell {a w:World} (h:Ext a w) {p:Addr} (hp:p.block < a.heap.size):w.cell? p=a.cell? p:=h.below.cell hp
theorem Ext.frozen {a w:World} (h:Ext a w) {p:Addr} (hp:p.block < a.heap.size):w.frozen? p=a.frozen? p:=h.below.frozen hp
structure Chg (S:Nat→Prop) (w w':World):Prop where
 os:w'.os=w.os
 tape:w'.tape=w.tape
 output:w'.output=w.output
 size:w.heap.size≤w'.heap.size
 block:∀ k,k < w.heap.size→¬ S k→w'.heap[k]?=w.heap[k]?
theorem Chg.refl (S:Nat→Prop) (w:World):Chg S w w:=⟨rfl,rfl,rfl,Yo _,fun _ _ _=>rfl⟩
theorem Chg.trans {S:Nat→Prop} {a b c:World} (h:Chg S a b) (k:Chg S b c):Chg S a c :=
 ⟨k.os.trans h.os,k.tape.trans h.tape,k.output.trans h.output,Nat.le_trans h.size k.size,fun i hi hS=>(k.block i (Nat.lt_of_lt_of_le hi h.size) hS).trans (h.block i hi hS)⟩
theorem Chg.mono {S T:Nat→Prop} {a b:World} (h:Chg S a b) (hST:∀ k,k < a.heap.size→S k→T k):Chg T a b :=
 ⟨h.os,h.tape,h.output,h.size,fun i hi hT=>h.block i hi fun hS=>hT (hST i hi hS)⟩
theorem Chg.drew {S:Nat→Prop} {a w:World} (h:Chg S a w):Chg S a w.drew:=h.trans ⟨rfl,rfl,rfl,Yo _,fun _ _ _=>rfl⟩
theorem Chg.drewN {S:Nat→Prop} {a w:World} (h:Chg S a w) (n:Nat):Chg S a (w.drewN n):=h.trans ⟨rfl,rfl,rfl,Yo _,fun _ _ _=>rfl⟩
theorem Chg.alloc {S:Nat→Prop} {a w:World} (h:Chg S a w) (o:Obj):Chg S a (w.alloc o) :=
 h.trans ⟨rfl,rfl,rfl,by simp,fun k hk _=>Below.heap_alloc w o k hk⟩
theorem Chg.setCell {S:Nat→Prop} {a w:World} (h:Chg S a w) {p:Addr} (hp:S p.block∨a.heap.size≤p.block) (u:Value):Chg S a (w.setCell p u):=by
 refine ⟨h.os,h.tape,h.output,by simpa [World.setCell] using h.size,fun k hk hS=>?_⟩
 rw [Below.heap_setCell w p u k (by rintro rfl;rcases hp with hp|hp;exact hS hp;omega)]
 exact h.block k hk hS
theorem Chg.grown {S:Nat→Prop} {a w w':World} {row:Option Nat} (h:Chg S a w) (g:w.grownBy w' row) (hr:∀ k,row=some k→S k∨a.heap.size≤k):Chg S a w':=by
 refine ⟨g.os.trans h.os,g.tape.trans h.tape,g.output.trans h.output,Nat.le_trans h.size g.size,fun k hk hS=>?_⟩
 rw [g.block k (Nat.lt_of_lt_of_le hk h.size) (fun e=>by rcases hr k e.symm with h1|h1;exact hS h1;omega)]
 exact h.block k hk hS
theorem Chg.cell {S:Nat→Prop} {a w:World} (h:Chg S a w) {p:Addr} (hp:p.block < a.heap.size) (hS:¬ S p.block):w.cell? p=a.cell? p:=World.cell?_of_block (h.block p.block hp hS)
theorem Chg.frozen {S:Nat→Prop} {a w:World} (h:Chg S a w) {p:Addr} (hp:p.block < a.heap.size) (hS:¬ S p.block):w.frozen? p=a.frozen? p:=World.frozen?_of_block (h.block p.block hp hS)
theorem Ext.chg {a w:World} (h:Ext a w) (S:Nat→Prop):Chg S a w:=by
 have hs:=h.size
 have hb:∀ k,k < a.heap.size→¬ S k→w.heap[k]?=a.heap[k]?:=fun k hk _=>h.block hk
 obtain ⟨n,os,rfl⟩:=h
 exact ⟨rfl,rfl,rfl,hs,hb⟩
theorem Ext.of_chg {a w:World} (h:Chg (fun _=>False) a w):Ext a w:=by
 refine ⟨w.drawn,w.heap.extract a.heap.size,?_⟩
 obtain ⟨h1,h2,h3,h5,h6⟩:=h
 cases w with
 | mk heap tape drawn os output =>
  simp only at h1 h2 h3 h5 h6
  subst h1 h2 h3
  have hh:heap=a.heap++heap.extract a.heap.size:=by
   apply Array.ext_getElem?
   intro i
   rw [Array.getElem?_append]
   by_cases hi:i < a.heap.size
   ·rw [if_pos hi];exact h6 i hi (fun h=>h)
   rw [if_neg hi,Array.getElem?_extract]
   split
   ·congr 1;omega
   rename_i hx;simp only [Array.getElem?_eq_none_iff];simp at hx;omega
  unfold later
  simp only [World.mk.injEq]
  refine ⟨hh,?_,?_,?_,?_⟩<;>trivial
theorem Ext.chg_new {S:Nat→Prop} {a b c:World} (h:Ext a b) (k:Chg S b c) (hS:∀ i,S i→a.heap.size≤i):Ext a c:=by
 have g:=h.chg (fun _=>False)
 exact Ext.of_chg ⟨k.os.trans g.os,k.tape.trans g.tape,k.output.trans g.output,Nat.le_trans g.size k.size,
  fun i hi _=>(k.block i (Nat.lt_of_lt_of_le hi g.size) (fun hi'=>absurd (hS i hi') (by omega))).trans (h.block hi)⟩
theorem Ya {a w:World} (h:Ext a w) {p:Addr} (hp:a.heap.size≤p.block) (u:Value):Ext a (w.setCell p u) :=
 Ext.of_chg ((h.chg _).setCell (.inr hp) u)
theorem Ext.grown {a w w':World} {row:Option Nat} (h:Ext a w) (g:w.grownBy w' row) (hr:∀ k,row=some k→a.heap.size≤k):Ext a w' :=
 Ext.of_chg ((h.chg _).grown g fun k hk=>.inr (hr k hk))
def I64 (n:Int):Prop:=-9223372036854775808≤n∧n≤9223372036854775807
theorem Zu1 {n:Int} (h:(Lit.int .i64 n).wf=true):I64 n:=by
 simp [Lit.wf,IntKind.min,IntKind.max,IntKind.signed,IntKind.bits] at h
 unfold I64
 omega
def IsRow (k:IntKind) (w:World) (a:Option Addr) (len cap:Nat) (zs:List Int):Prop :=
 (a=none∧len=0∧cap=0∧zs=[]) ∨
 ∃ x,a=some x∧len≤cap∧cap≤maxLen∧zs.length=cap∧(∀ i,i < zs.length→w.cell? (x.add i)=some (.int k (zs.getD i 0)))∧∀ n∈zs,(Lit.int k n).wf=true
structure Wj where
 n:Nat
 os:Array Obj
instance:Inhabited Wj:=⟨⟨0,#[]⟩⟩
theorem Y0 {P:Program} {id:Nat} {Q:Exit→Act→World→Prop} {a:Act} {w:World} {l:List Oper} (hm:P.follows .mixedOrders=true) (hB:Region.lexB .any l.toArray=true)
 (h:wpQuiet P l.toArray (fun w'=>∃ p:Wj,w'=later w p.n p.os) (fun a'=>∀ w',Ext w w'→Q .normal a' w') l a):(Code.region id l.toArray true).wp P Q a w :=
 wp_region_quiet (C:=fun w'=>∃ p:Wj,w'=later w p.n p.os) hm hB ⟨⟨w.drawn+1,#[]⟩,by rw [Jn]⟩ (by
  have e:(fun a'=>∀ w',Ext w w'→Q .normal a' w')=(fun a'=>∀ w',(∃ p:Wj,w'=later w p.n p.os)→Q .normal a' w'):=by
   funext a'
   apply propext
   constructor
   ·rintro h w' ⟨⟨n,os⟩,rfl⟩;exact h _ ⟨n,os,rfl⟩
   rintro h w' ⟨n,os,rfl⟩;exact h _ ⟨⟨n,os⟩,rfl⟩
  rw [e] at h
  simpa using h)
theorem Qe (w:World) (n:Nat) (os:Array Obj) (b o:Nat) (h:b < w.heap.size):(later w n os).cell? ⟨b,o,none⟩=w.cell? ⟨b,o,none⟩ :=
 World.cell?_of_block (Fg w n os h)
theorem Y8 {P:Program} {f:FuncId} {args:Array Value} {w:World} {n:Nat} {os:Array Obj} {v:Value}
 (h:Calls P f args (later w n os) fun e w'=>e=.returned v∧Ext (later w n os) w'):Calls P f args (later w n os) fun e w''=>e=.returned v∧∃ p:Wj,w''=later w p.n p.os :=
 h.mono fun _ _ ⟨he,q,os',hq⟩=>⟨he,⟨q,os++os'⟩,by rw [hq];exact Fy _ _ _ _ _⟩
theorem Xv {P:Program} {f:FuncId} {args:Array Value} {w:World} {n:Nat} {os:Array Obj} {v:Value}
 (h:Calls P f args (later w n os) fun e w'=>e=.returned v∧later w n os=w'):Calls P f args (later w n os) fun e w''=>e=.returned v∧∃ p:Wj,w''=later w p.n p.os :=
 h.mono fun _ _ ⟨he,hw⟩=>⟨he,⟨n,os⟩,hw.symm⟩
def Di (n:Int):Bool:=decide (0≤n) && decide (n≤1073741824)
theorem L9 {n:Int} (h:0≤n∧n≤1073741824):Di n=true:=by simp [Di,h.1,h.2]
theorem Rw {n:Int} (h:n < 0∨1073741824 < n):Di n=false:=by simp [Di];omega
theorem Kt (n:Int) (w:World):Calls Tryz.prog 153 #[.int .i64 n] w fun e w'=>e=.returned (.bool (Di n))∧w=w':=by
 unfold Di
 by_cases h:0≤n
 ·have h':decide (0≤n)=true:=by simpa using h
  go_enter Tryz.func153,Tryz.ntmps153
  go_wp2
  go_ret
  simp_all
 have h':decide (0≤n)=false:=by simpa using h
 go_enter Tryz.func153,Tryz.ntmps153
 go_wp2
 go_ret
 simp_all
def Tg (v n:Int):Int:=(v % 18446744073709551616) % n
theorem Zz6 (v n:Int) (h1:1≤n) (h2:n≤9223372036854775807):wrap64 ((IntKind.u64.wrap v).tmod n)=Tg v n:=by
 have e:IntKind.u64.wrap v=v % 18446744073709551616:=by simp [IntKind.wrap,IntKind.bits,IntKind.signed]
 unfold Tg wrap64
 rw [e,Int.tmod_eq_emod_of_nonneg (by omega)]
 have:=Int.emod_lt_of_pos (v % 18446744073709551616) (show 0 < n by omega)
 have:=Int.emod_nonneg (v % 18446744073709551616) (show n≠0 by omega)
 omega
theorem Dq (v n:Int) (h1:1≤n):0≤Tg v n∧Tg v n < n :=
 ⟨Int.emod_nonneg _ (by omega),Int.emod_lt_of_pos _ (by omega)⟩
theorem pick_any (v n:Int) (h1:1≤n) (h2:n≤9223372036854775807) (w:World) :
 Calls Tryz.prog 23 #[.int .i64 v,.int .i64 n] w fun e w'=>e=.returned (.int .i64 (Tg v n))∧w=w':=by
 have H:=Yw (Zz6 v n h1 h2)
 go_enter Tryz.func23,Tryz.ntmps23
 go_wp2
 go_ret
 exact ⟨by show Ending.returned (.int .i64 (wrap64 ((IntKind.u64.wrap v).tmod n)))=_;rw [H.out],rfl⟩
def Ns (now n:Int):Int:=if Di now=false then 0 else if n < 0 then now else if 1073741824 - now < n then 1073741824 else now+n
theorem Zt3 {now n:Int} (h:Di now=false):Ns now n=0:=by simp [Ns,h]
theorem Ie {now n:Int} (h:Di now=true) (hn:n < 0):Ns now n=now:=by simp [Ns,h,hn]
theorem Ny {now n:Int} (h:Di now=true) (hn:0≤n) (hf:1073741824 - now < n):Ns now n=1073741824:=by simp [Ns,h,hf];omega
theorem Io {now n:Int} (h:Di now=true) (hn:0≤n) (hf:n≤1073741824 - now):Ns now n=now+n:=by
 have h1:¬ n < 0:=by omega
 have h2:¬ 1073741824 - now < n:=by omega
 simp [Ns,h,h1,h2]
theorem Ou (now n:Int) (w:World):Calls Tryz.prog 116 #[.int .i64 now,.int .i64 n] w fun e w'=>e=.returned (.int .i64 (Ns now n))∧w=w':=by
 by_cases ht:0≤now∧now≤1073741824
 ·obtain ⟨t0,t1⟩:=ht
  have hb:=L9 ⟨t0,t1⟩
  by_cases hn:n < 0
  ·have H:=Yw (Ie hb hn)
   go_enter Tryz.func116,Tryz.ntmps116
   go_wp2_with (go_at_call 153;refine (Kt _ _).mono ?_;rintro e w' ⟨rfl,rfl⟩)
   go_ret
   exact ⟨by rw [H.out];rfl,rfl⟩
  have hn':0≤n:=by omega
  by_cases hm:1073741824 < n
  ·have H:=Yw (Ny hb hn' (by omega))
   go_enter Tryz.func116,Tryz.ntmps116
   go_wp2_with (go_at_call 153;refine (Kt _ _).mono ?_;rintro e w' ⟨rfl,rfl⟩)
   go_ret
   exact ⟨by rw [H.out];rfl,rfl⟩
  by_cases hf:1073741824 - now < n
  ·have H:=Yw (Ny hb hn' hf)
   have hlt:1073741824 < now+n:=by omega
   go_enter Tryz.func116,Tryz.ntmps116
   go_wp2_with (go_at_call 153;refine (Kt _ _).mono ?_;rintro e w' ⟨rfl,rfl⟩)
   go_ret
   exact ⟨by rw [H.out];rfl,rfl⟩
  have hf':n≤1073741824 - now:=by omega
  have H:=Yw (Io hb hn' hf')
  have hlt:now+n≤1073741824:=by omega
  go_enter Tryz.func116,Tryz.ntmps116
  go_wp2_with (go_at_call 153;refine (Kt _ _).mono ?_;rintro e w' ⟨rfl,rfl⟩)
  go_ret
  exact ⟨by rw [H.out];rfl,rfl⟩
 have hb:=Rw (show now < 0∨1073741824 < now by omega)
 have H:=Yw (Zt3 (n:=n) hb)
 go_enter Tryz.func116,Tryz.ntmps116
 go_wp2_with (go_at_call 153;refine (Kt _ _).mono ?_;rintro e w' ⟨rfl,rfl⟩)
 go_ret
 exact ⟨by rw [H.out];rfl,rfl⟩
def Aj (st dl now:Int):Bool:=st == 2 || (st == 1 && decide (now < dl))
theorem Ot (st ow dl now:Int) (nm:ByteArray) (w:World) :
 Calls Tryz.prog 104 #[.agg #[.int .i64 st,.int .i64 ow,.string nm,.int .i64 dl],.int .i64 now] w fun e w'=>e=.returned (.bool (Aj st dl now))∧Ext w w':=by
 unfold Aj
 by_cases h2:st=2
 ·subst h2
  go_enter Tryz.func104,Tryz.ntmps104
  go_wp2
  go_ret
  exact ⟨by simp,(Ext.refl _).alloc _⟩
 by_cases h1:st=1
 ·subst h1
  go_enter Tryz.func104,Tryz.ntmps104
  go_wp2
  go_ret
  exact ⟨by simp,(Ext.refl _).alloc _⟩
 go_enter Tryz.func104,Tryz.ntmps104
 go_wp2
 go_ret
 exact ⟨by simp [h1,h2],(Ext.refl _).alloc _⟩
structure Rc where
 st:Int
 ow:Int
 nm:ByteArray
 dl:Int
instance:Inhabited Rc:=⟨⟨0,0,⟨#[]⟩,0⟩⟩
def Rc.cells (r:Rc):List Value:=[.int .i64 r.st,.int .i64 r.ow,.string r.nm,.int .i64 r.dl]
def byteAt (s:ByteArray) (k:Nat):Int:=if h:k < s.size then (s[k].toNat:Int) else 0
def Rm (y b:Int):Int:=bits BinOp.xor IntKind.u32 y (b % 4294967296) * 16777619 % 4294967296
def Zt1 (s:ByteArray):Nat→Int
 | 0=>2166136261
 | k+1=>Rm (Zt1 s k) (byteAt s k)
def Zxx (s:ByteArray):Int:=Zt1 s s.size
theorem Zq7 (s:ByteArray) (k:Nat):0≤Zt1 s k∧Zt1 s k < 4294967296:=by
 cases k with
 | zero=>simp [Zt1]
 | succ k=>unfold Zt1 Rm;omega
theorem Mj (s:ByteArray):0≤Zxx s∧Zxx s < 4294967296:=Zq7 s _
theorem Ztt (s:ByteArray):wrap64 (Zxx s)=Zxx s:=by
 have:=Mj s
 unfold wrap64;omega
theorem N2:Tryz.prog.underlying 9=some .string:=by kernel_rfl
theorem Jk:Tryz.prog.underlying 224=some (.slice 5):=by kernel_rfl
theorem E6:Tryz.prog.underlying 5=some (.int .u8):=by kernel_rfl
theorem L8 (w:World) (s:ByteArray) (c:Nat) (e:TypeId) (f:Nat×Nat) {k:Nat} (hk:k < s.size):(w.alloc (.cells (bytesRow s c) e f)).drew.cell? ⟨w.heap.size,k,none⟩=some (.int .u8 (byteAt s k)):=by
 have h1:(w.alloc (.cells (bytesRow s c) e f)).drew.heap[w.heap.size]?=some (.cells (bytesRow s c) e f):=heap_alloc_new w _
 have h2:k < s.data.size:=hk
 have h3:(bytesRow s c)[k]?=some (.int .u8 (byteAt s k)):=by
  unfold bytesRow byteAt
  rw [Array.getElem?_append_left (by simpa using h2),dif_pos hk]
  simp
  exact ⟨_,Array.getElem?_eq_getElem h2,rfl⟩
 simp only [World.cell?,h1]
 exact h3
theorem sum_any (s:ByteArray) (w:World) (hs:s.size≤maxLen):Calls Tryz.prog 120 #[.string s] w fun e w'=>e=.returned (.int .i64 (Zxx s))∧Ext w w':=by
 unfold maxLen at hs
 obtain ⟨n,hn⟩:∃ n,s.size=n:=⟨_,rfl⟩
 have H:=Yw (show wrap64 (Zt1 s n)=Zxx s by rw [← hn];exact Ztt s)
 have hcv:=fun w s=>run_bytes_of_string (P:=Tryz.prog) w 9 224 5 s N2 Jk E6
 have hx:∀ o,Ext w (w.alloc o).drew:=fun o=>((Ext.refl w).alloc o).drew
 go_enter Tryz.func120,Tryz.ntmps120
 go_wp2_with fail
 have hb:=fun c f k hk=>L8 w s c 5 f (k:=k) hk
 go_loopw [3,9] (fun x i wr=>∃ k:Nat,k≤n∧i=.int .i64 (k:Int)∧x=.int .u32 (Zt1 s k)∧Ext w wr∧∀ k,k < s.size→wr.cell? ⟨w.heap.size,k,none⟩=some (.int .u8 (byteAt s k))) (fun _ i _=>n - (intOf i).toNat)
 case atStart=>exact ⟨0,by omega,rfl,rfl,hx _,fun k hk=>hb _ _ k hk⟩
 obtain ⟨k,hk,rfl,rfl,hxr,hbr⟩:=hrel
 by_cases hkn:k < n
 ·have hd:decide ((k:Int) < (n:Int))=true:=by simpa using hkn
  have hc:=hbr k (by omega)
  go_wp2_with fail
  go_roundw
  case rel=>exact ⟨k+1,by omega,by go_num,by simp [Zt1,Rm],hxr,hbr⟩
  case measure=>simp [intOf];omega
 have hd:decide ((k:Int) < (n:Int))=false:=by simp;omega
 have hkn':k=n:=by omega
 subst hkn'
 go_wp2_with fail
 rw [H.out]
 go_ret
 exact ⟨rfl,hxr⟩
theorem Ua {a b:List UInt8} (h:a≤b) (hne:a≠b):a < b:=by
 rcases List.le_iff_lt_or_eq.1 h with h|h
 ·exact h
 exact absurd h hne
def bs (l:List UInt8):ByteArray:=⟨l.toArray⟩
theorem Fn (l:List UInt8):(bs l).data.toList=l:=rfl
theorem Sx (s:ByteArray):bs s.data.toList=s:=rfl
theorem Jl (a b:List UInt8):bs (a++b)=bs a++bs b:=by
 apply ByteArray.ext
 simp [bs,ByteArray.data_append]
theorem Qi (l:List UInt8):(bs l).size=l.length:=by simp [bs,ByteArray.size]
def zz (v:Int):Nat:=if 0≤v then (2 * v).toNat else (-2 * v - 1).toNat
def Zvv (u:Nat):Int:=if u % 2=0 then (u / 2:Nat) else -((u / 2:Nat):Int) - 1
theorem Zqv (v:Int):Zvv (zz v)=v:=by
 unfold Zvv zz
 split
 ·rename_i h
  split<;>omega
 rename_i h
 split<;>omega
theorem Zzi {v:Int} (h1 : -9223372036854775808≤v) (h2:v≤9223372036854775807):zz v < 18446744073709551616:=by
 unfold zz;split<;>omega
def leb (u:Nat):List UInt8 :=
 if u < 128 then [UInt8.ofNat u] else UInt8.ofNat (u % 128+128)::leb (u / 128)
termination_by u
decreasing_by omega
theorem Kn {u:Nat} (h:u < 128):leb u=[UInt8.ofNat u]:=by rw [leb,if_pos h]
theorem N0 {u:Nat} (h:¬ u < 128):leb u=UInt8.ofNat (u % 128+128)::leb (u / 128):=by rw [leb,if_neg h]
theorem Zue (u:Nat):0 < (leb u).length:=by
 by_cases h:u < 128
 ·rw [Kn h];simp
 rw [N0 h];simp
theorem Zxd:∀ (k u:Nat),u < 128 ^ (k+1)→(leb u).length≤k+1
 | 0,u,h=>by rw [Kn (by simpa using h)];simp
 | k+1,u,h=>by
  by_cases hu:u < 128
  ·rw [Kn hu];simp
  rw [N0 hu]
  have:u / 128 < 128 ^ (k+1):=by
   rw [Nat.pow_succ] at h
   exact Nat.div_lt_of_lt_mul (by omega)
  have:=Zxd k _ this
  simp;omega
theorem Zqr {u:Nat} (h:u < 18446744073709551616):(leb u).length≤10:=Zxd 9 u (by omega)
def Pn (k acc:Nat):List UInt8→Option (Nat×Nat)
 | []=>none
 | c::r =>
  if k=9∧1 < c.toNat then none
  else if 128≤c.toNat then Pn (k+1) (acc+(c.toNat % 128) * 128 ^ k) r
  else if c.toNat=0∧0 < k then none
  else some (acc+c.toNat * 128 ^ k,k+1)
theorem Zxh {n:Nat} (h:n < 256):(UInt8.ofNat n).toNat=n:=by
 simp [UInt8.toNat_ofNat'];omega
theorem Zt9 (r:List UInt8):∀ (z k acc:Nat),k≤9→z * 128 ^ k < 18446744073709551616→(0 < k→0 < z) →
 Pn k acc (leb z++r)=some (acc+z * 128 ^ k,k+(leb z).length):=by
 intro z
 induction z using Nat.strongRecOn with
 | _ z ih =>
  intro k acc hk hz h0
  by_cases hs:z < 128
  ·rw [Kn hs]
   have h9:¬ (k=9∧1 < z):=by
    rintro ⟨rfl,h⟩
    have:2 * 128 ^ 9≤z * 128 ^ 9:=Nat.mul_le_mul_right _ h
    omega
   have hc:(UInt8.ofNat z).toNat=z:=Zxh (by omega)
   simp only [List.cons_append,Zo,Pn,hc]
   rw [if_neg h9,if_neg (by omega),if_neg (by omega)]
   simp
  rw [N0 hs]
  have hm:z % 128 < 128:=Nat.mod_lt _ (by omega)
  have hc:(UInt8.ofNat (z % 128+128)).toNat=z % 128+128:=Zxh (by omega)
  have hk9:k≠9:=by
   rintro rfl
   have:128 * 128 ^ 9≤z * 128 ^ 9:=Nat.mul_le_mul_right _ (by omega)
   omega
  simp only [List.cons_append,Pn,hc]
  rw [if_neg (by omega),if_pos (by omega)]
  have hd:z / 128 * 128 ^ (k+1)≤z * 128 ^ k:=by
   rw [Nat.pow_succ,Nat.mul_comm (128 ^ k) 128,← Nat.mul_assoc]
   exact Nat.mul_le_mul_right _ (Nat.div_mul_le_self z 128)
  rw [ih (z / 128) (by omega) (k+1) _ (by omega) (by omega) (fun _=>by omega)]
  have e1:(z % 128+128) % 128=z % 128:=by omega
  rw [e1]
  have e2:z % 128 * 128 ^ k+z / 128 * 128 ^ (k+1)=z * 128 ^ k:=by
   rw [Nat.pow_succ,Nat.mul_comm (128 ^ k) 128,← Nat.mul_assoc,← Nat.add_mul]
   congr 1;omega
  simp only [Option.some.injEq,Prod.mk.injEq,Zl]
  refine ⟨by rw [Nat.add_assoc,e2],by omega⟩
theorem Zxi:∀ (l:List UInt8) (k acc z n:Nat),k≤9→acc < 128 ^ k→Pn k acc l=some (z,n)→z < 18446744073709551616∧k < n∧n≤k+l.length∧n≤10
 | [],_,_,_,_,_,_,h=>by simp [Pn] at h
 | c::r,k,acc,z,n,hk,ha,h=>by
  rw [Pn] at h
  have hc:=UInt8.toNat_lt c
  split at h
  ·simp at h
  rename_i h1
  split at h
  ·rename_i h2
   have hk9:k≠9:=fun e=>h1 ⟨e,by omega⟩
   have hp:acc+(c.toNat % 128) * 128 ^ k < 128 ^ (k+1):=by
    have:c.toNat % 128≤127:=by omega
    have:=Nat.mul_le_mul_right (128 ^ k) this
    rw [Nat.pow_succ];omega
   obtain ⟨a1,a2,a3,a4⟩:=Zxi r (k+1) _ z n (by omega) hp h
   simp only [Zl]
   exact ⟨a1,by omega,by omega,a4⟩
  split at h
  ·simp at h
  rename_i h2 h3
  simp only [Option.some.injEq,Prod.mk.injEq] at h
  obtain ⟨rfl,rfl⟩:=h
  simp only [Zl]
  refine ⟨?_,by omega,by omega,by omega⟩
  by_cases hk9:k=9
  ·subst hk9
   have:c.toNat≤1:=Nat.le_of_not_lt fun h=>h1 ⟨rfl,h⟩
   have:=Nat.mul_le_mul_right (128 ^ 9) this
   omega
  have h8:k≤8:=by omega
  have:c.toNat≤127:=by omega
  have:=Nat.mul_le_mul_right (128 ^ k) this
  have h9:(128:Nat) ^ k≤128 ^ 8:=Nat.pow_le_pow_right (by omega) h8
  omega
def code (v:Int):List UInt8:=leb (zz v)
def Pm (l:List UInt8):Option (Int×Nat):=(Pn 0 0 l).map fun p=>(Zvv p.1,p.2)
theorem Zvi {v:Int} (h1 : -9223372036854775808≤v) (h2:v≤9223372036854775807) (r:List UInt8):Pm (code v++r)=some (v,(code v).length):=by
 unfold Pm code
 rw [Zt9 r (zz v) 0 0 (by omega) (by simpa using Zzi h1 h2) (by omega)]
 simp [Zqv]
theorem Zs0 (v:Int):0 < (code v).length:=Zue _
theorem Vs {v:Int} (h1 : -9223372036854775808≤v) (h2:v≤9223372036854775807):(code v).length≤10:=Zqr (Zzi h1 h2)
theorem Zpx {u:Nat} (h:u < 18446744073709551616) : -9223372036854775808≤Zvv u∧Zvv u≤9223372036854775807:=by
 unfold Zvv;split<;>omega
theorem Zuj {l:List UInt8} {v:Int} {n:Nat} (h:Pm l=some (v,n)) : -9223372036854775808≤v∧v≤9223372036854775807∧0 < n∧n≤l.length∧n≤10:=by
 unfold Pm at h
 simp only [Option.map_eq_some_iff,Prod.mk.injEq] at h
 obtain ⟨⟨z,m⟩,h1,rfl,rfl⟩:=h
 obtain ⟨a1,a2,a3,a4⟩:=Zxi l 0 0 z m (by omega) (by simp) h1
 obtain ⟨b1,b2⟩:=Zpx a1
 exact ⟨b1,b2,by omega,by omega,a4⟩
structure Nm where
 a:ByteArray
 u:ByteArray
 k:ByteArray
structure Ent where
 cl:Int
 op:Int
 ttl:Int
 tick:Int
 names:List Nm
def Vy (op:Int):Bool:=op == 1 || op == 3
def srt:List Nm→Bool
 | []=>true
 | [_]=>true
 | x::y::r=>decide (x.k.data.toList < y.k.data.toList) && srt (y::r)
def Jx (e:Ent):Bool :=
 decide (0≤e.cl) && decide (e.cl≤63) && decide (1≤e.op) && decide (e.op≤6) && (if Vy e.op then decide (1≤e.ttl) && decide (e.ttl≤1073741824) else e.ttl == 0) && decide (0≤e.tick) && decide (e.tick≤1073741824) && decide (1≤e.names.length) && decide (e.names.length≤16)
def En (n:Nm):Bool:=decide (1≤n.a.size) && decide (n.a.size≤63)
def V8 (e:Ent):Int:=if !Jx e then 3 else if !srt e.names then 1 else if e.names.all En then 0 else 1
def Zx2 (l:List UInt8):Nat:=(Zxx (bs l)).toNat
theorem Zx9 (l:List UInt8):Zx2 l < 4294967296:=by
 have:=Mj (bs l)
 unfold Zx2;omega
theorem Zto (s:ByteArray):((Zx2 s.data.toList:Nat):Int)=Zxx s:=by
 have:=Mj s
 unfold Zx2;rw [Sx];omega
def item (s:List UInt8):List UInt8:=code s.length++s
def Wg (n:Nm):List UInt8:=item n.a.data.toList++item n.u.data.toList++item n.k.data.toList
def Xo:List Nm→List UInt8
 | []=>[]
 | n::r=>Wg n++Xo r
theorem Qz:∀ a b:List Nm,Xo (a++b)=Xo a++Xo b
 | [],_=>rfl
 | n::r,b=>by simp [Xo,Qz r b]
def Wn (e:Ent):List UInt8:=code e.cl++code e.op++code e.ttl++code e.tick++code (e.names.length:Nat)
def Wm (e:Ent):List UInt8:=Wn e++Xo e.names
def Uk (b:List UInt8):List UInt8:=item b++code (Zx2 b:Nat)
def Jd (e:Ent):Int×List UInt8:=if V8 e≠0 then (V8 e,[]) else if 4096 < (Wm e).length then (7,[]) else (0,Uk (Wm e))
def Ul (s:List UInt8) (at_:Nat) (bad:Bool):Int×Nat×Bool :=
 if bad then (0,at_,true) else match Pm (s.drop at_) with
  | some (v,k)=>(v,at_+k,false)
  | none=>(0,at_,true)
def Vl (s:List UInt8) (at_:Nat) (bad:Bool):List UInt8×Nat×Bool :=
 let p:=Ul s at_ bad
 if p.2.2=true∨p.1 < 0∨(s.length - p.2.1:Nat) < p.1 then ([],p.2.1,true) else ((s.drop p.2.1).take p.1.toNat,p.2.1+p.1.toNat,false)
theorem Jq {s:List UInt8} {t:Nat} {b:Bool} (h:t≤s.length):(Ul s t b).2.1≤s.length∧t≤(Ul s t b).2.1:=by
 unfold Ul
 split
 ·exact ⟨h,Yo _⟩
 split
 ·rename_i hg
  obtain ⟨_,_,_,h3,_⟩:=Zuj hg
  simp at h3 ⊢;omega
 exact ⟨h,Yo _⟩
theorem Jv {s:List UInt8} {t:Nat} {b:Bool} (h:t≤s.length):(Vl s t b).2.1≤s.length∧t≤(Vl s t b).2.1:=by
 obtain ⟨h1,h2⟩:=Jq (b:=b) h
 unfold Vl
 simp only
 split
 ·exact ⟨h1,h2⟩
 rename_i hn
 simp only [not_or] at hn
 simp only;omega
theorem Fq (s:List UInt8) (t:Nat) (b:Bool) : -9223372036854775808≤(Ul s t b).1∧(Ul s t b).1≤9223372036854775807:=by
 unfold Ul
 split
 ·simp
 split
 ·rename_i hg
  obtain ⟨h1,h2,_⟩:=Zuj hg
  exact ⟨h1,h2⟩
 simp
theorem Zv5 {v:Int} (h1 : -9223372036854775808≤v) (h2:v≤9223372036854775807) (p r:List UInt8):Ul (p++(code v++r)) p.length false=(v,p.length+(code v).length,false):=by
 unfold Ul
 rw [List.drop_left,Zvi h1 h2]
 simp
theorem Qu {v:Int} (h1 : -9223372036854775808≤v) (h2:v≤9223372036854775807) {s:List UInt8} {t:Nat} (p r:List UInt8) (hs:s=p++(code v++r)) (ht:t=p.length):Ul s t false=(v,t+(code v).length,false):=by
 subst hs ht;exact Zv5 h1 h2 p r
theorem Ur {b:List UInt8} (hb:b.length≤9223372036854775807) {s:List UInt8} {t:Nat} (p r:List UInt8) (hs:s=p++(item b++r)) (ht:t=p.length):Vl s t false=(b,t+(item b).length,false):=by
 have e:Ul s t false=((b.length:Int),t+(code (b.length:Int)).length,false):=Qu (by omega) (by omega) p (b++r) (by rw [hs,item];simp) ht
 have hl:s.length=p.length+(code (b.length:Int)).length+b.length+r.length:=by rw [hs,item];simp;omega
 unfold Vl
 rw [e]
 simp only
 rw [if_neg (by simp;omega)]
 have hd:s.drop (t+(code (b.length:Int)).length)=b++r:=by
  rw [hs,ht,item,← List.drop_drop,List.drop_left,List.append_assoc,List.drop_left]
 rw [hd]
 simp [item];omega
def Qk (s:List UInt8) (t:Nat) (b:Bool):Nm×Nat×Bool :=
 let p:=Vl s t b
 let q:=Vl s p.2.1 p.2.2
 let r:=Vl s q.2.1 q.2.2
 (⟨bs p.1,bs q.1,bs r.1⟩,r.2.1,r.2.2)
theorem Zs1 {s:List UInt8} {t:Nat} {b:Bool} (h:t≤s.length):(Qk s t b).2.1≤s.length∧t≤(Qk s t b).2.1:=by
 unfold Qk
 simp only
 have h1:=Jv (b:=b) h
 have h2:=Jv (s:=s) (b:=(Vl s t b).2.2) h1.1
 have h3:=Jv (s:=s) (b:=(Vl s (Vl s t b).2.1 (Vl s t b).2.2).2.2) h2.1
 exact ⟨h3.1,by omega⟩
def Vt (s:List UInt8):Nat→Nat→Bool→List Nm×Nat×Bool
 | 0,t,b=>([],t,b)
 | n+1,t,b=>let p:=Qk s t b;let q:=Vt s n p.2.1 p.2.2;(p.1::q.1,q.2.1,q.2.2)
theorem Tl {n:Nm} (h1:n.a.size≤4096) (h2:n.u.size≤4096) (h3:n.k.size≤4096) {s:List UInt8} {t:Nat} (p r:List UInt8) (hs:s=p++(Wg n++r)) (ht:t=p.length):Qk s t false=(n,t+(Wg n).length,false):=by
 have q1:n.a.data.toList.length≤4096:=h1
 have q2:n.u.data.toList.length≤4096:=h2
 have q3:n.k.data.toList.length≤4096:=h3
 have e1:=Ur (b:=n.a.data.toList) (s:=s) (t:=t) (by omega) p (item n.u.data.toList++item n.k.data.toList++r) (by rw [hs,Wg];simp) ht
 have e2:=Ur (b:=n.u.data.toList) (s:=s) (t:=t+(item n.a.data.toList).length) (by omega) (p++item n.a.data.toList) (item n.k.data.toList++r) (by rw [hs,Wg];simp) (by rw [ht];simp)
 have e3:=Ur (b:=n.k.data.toList) (s:=s) (t:=t+(item n.a.data.toList).length+(item n.u.data.toList).length) (by omega) (p++item n.a.data.toList++item n.u.data.toList) r (by rw [hs,Wg];simp) (by rw [ht];simp;omega)
 unfold Qk
 simp only [e1,e2,e3]
 simp only [Prod.mk.injEq,and_true]
 refine ⟨rfl,?_⟩
 simp [Wg];omega
theorem Et (s r:List UInt8):∀ (l:List Nm) (p:List UInt8) (t:Nat),(∀ n∈l,n.a.size≤4096∧n.u.size≤4096∧n.k.size≤4096)→s=p++(Xo l++r)→t=p.length→Vt s l.length t false=(l,t+(Xo l).length,false)
 | [],p,t,_,_,_=>by simp [Vt,Xo]
 | n::l,p,t,h,hs,ht=>by
  obtain ⟨h1,h2,h3⟩:=h n (by simp)
  have e1:=Tl h1 h2 h3 (s:=s) (t:=t) p (Xo l++r) (by rw [hs,Xo];simp) ht
  have e2:=Et s r l (p++Wg n) (t+(Wg n).length) (fun m hm=>h m (by simp [hm])) (by rw [hs,Xo];simp) (by rw [ht];simp)
  simp only [Zl,Vt,e1,e2,Xo,Zs]
  simp;omega
structure Head where
 cl:Int
 op:Int
 ttl:Int
 tick:Int
 n:Int
 at_:Nat
 bad:Bool
def Qp (s:List UInt8):Head :=
 let a:=Ul s 0 false
 let b:=Ul s a.2.1 a.2.2
 let c:=Ul s b.2.1 b.2.2
 let d:=Ul s c.2.1 c.2.2
 let e:=Ul s d.2.1 d.2.2
 ⟨a.1,b.1,c.1,d.1,e.1,e.2.1,e.2.2⟩
theorem Zsq (s:List UInt8):(Qp s).at_≤s.length:=by
 unfold Qp
 simp only
 exact (Jq (Jq (Jq (Jq (Jq (Nat.zero_le _)).1).1).1).1).1
theorem Te {e:Ent} (h1:I64 e.cl) (h2:I64 e.op) (h3:I64 e.ttl) (h4:I64 e.tick) (h5:e.names.length≤16) {s:List UInt8} (r:List UInt8) (hs:s=Wn e++r):Qp s=⟨e.cl,e.op,e.ttl,e.tick,e.names.length,(Wn e).length,false⟩:=by
 have e1:=Qu h1.1 h1.2 (s:=s) (t:=0) [] (code e.op++code e.ttl++code e.tick++code (e.names.length:Nat)++r) (by rw [hs,Wn];simp) rfl
 have e2:=Qu h2.1 h2.2 (s:=s) (t:=0+(code e.cl).length) (code e.cl) (code e.ttl++code e.tick++code (e.names.length:Nat)++r) (by rw [hs,Wn];simp) (by simp)
 have e3:=Qu h3.1 h3.2 (s:=s) (t:=0+(code e.cl).length+(code e.op).length) (code e.cl++code e.op) (code e.tick++code (e.names.length:Nat)++r) (by rw [hs,Wn];simp) (by simp)
 have e4:=Qu h4.1 h4.2 (s:=s) (t:=0+(code e.cl).length+(code e.op).length+(code e.ttl).length) (code e.cl++code e.op++code e.ttl) (code (e.names.length:Nat)++r) (by rw [hs,Wn];simp) (by simp;omega)
 have e5:=Qu (v:=(e.names.length:Nat)) (by omega) (by omega) (s:=s) (t:=0+(code e.cl).length+(code e.op).length+(code e.ttl).length+(code e.tick).length) (code e.cl++code e.op++code e.ttl++code e.tick) r (by rw [hs,Wn];simp) (by simp;omega)
 unfold Qp
 simp only [e1,e2,e3,e4,e5]
 simp only [Head.mk.injEq,true_and,and_true]
 simp [Wn];omega
def I7 (s:List UInt8):Option Ent :=
 let h:=Qp s
 if 1≤h.n∧h.n≤16 then
  let q:=Vt s h.n.toNat h.at_ h.bad
  if q.2.2 then none else some ⟨h.cl,h.op,h.ttl,h.tick,q.1⟩
 else none
def Kg (s:List UInt8) (e:Ent) (n:Nat):Prop:=∃ x,Jd e=(0,x)∧x <+: s∧n=x.length
structure Fits (e:Ent):Prop where
 cl:I64 e.cl
 op:I64 e.op
 ttl:I64 e.ttl
 tick:I64 e.tick
 len:e.names.length≤16
 pos:1≤e.names.length
 names:∀ n∈e.names,n.a.size≤4096∧n.u.size≤4096∧n.k.size≤4096
 body:(Wm e).length≤4096
theorem Uf {n:Nm}:∀ {l:List Nm},n∈l→n.a.size+n.u.size+n.k.size≤(Xo l).length
 | m::l,h=>by
  rcases Zg.1 h with rfl|h
  ·simp only [Xo,Wg,item,Zs]
   show n.a.data.toList.length+n.u.data.toList.length+n.k.data.toList.length≤_
   omega
  have:=Uf h
  simp only [Xo,Zs];omega
theorem Eb {e:Ent} {x:List UInt8} (h:Jd e=(0,x)):Fits e∧x=Uk (Wm e)∧V8 e=0:=by
 unfold Jd at h
 split at h
 ·rename_i hc;simp only [Prod.mk.injEq] at h;exact absurd h.1 hc
 rename_i hc
 split at h
 ·simp at h
 rename_i hb
 simp only [Prod.mk.injEq,true_and] at h
 simp only [Decidable.not_not] at hc
 have hr:Jx e=true:=by
  cases hr:Jx e with
  | true=>rfl
  | false=>unfold V8 at hc;rw [hr] at hc;simp at hc
 simp only [Jx,Bool.and_eq_true,decide_eq_true_eq] at hr
 obtain ⟨⟨⟨⟨⟨⟨⟨⟨a1,a2⟩,a3⟩,a4⟩,a5⟩,a6⟩,a7⟩,a8⟩,a9⟩:=hr
 have ht:I64 e.ttl:=by
  split at a5
  ·simp only [Bool.and_eq_true,decide_eq_true_eq] at a5
   exact ⟨by omega,by omega⟩
  simp only [beq_iff_eq] at a5;rw [a5];exact ⟨by omega,by omega⟩
 refine ⟨⟨⟨by omega,by omega⟩,⟨by omega,by omega⟩,ht,⟨by omega,by omega⟩,a9,a8,fun n hn=>?_,by omega⟩,h.symm,hc⟩
 have:=Uf hn
 have hl:(Xo e.names).length≤(Wm e).length:=by simp [Wm]
 omega
theorem Zy9 {e:Ent} (f:Fits e):I7 (Wm e)=some e:=by
 have h:=Te f.cl f.op f.ttl f.tick f.len (s:=Wm e) (Xo e.names) rfl
 have hn:=Et (Wm e) [] e.names (Wn e) (Wn e).length f.names (by simp [Wm]) rfl
 unfold I7
 simp only [h]
 have h1:=f.pos
 have h2:=f.len
 rw [if_pos ⟨by omega,by omega⟩]
 simp only [Int.toNat_natCast,hn]
 rfl
theorem wrap_text {e:Ent} (f:Fits e) (r:List UInt8):Vl (Uk (Wm e)++r) 0 false=(Wm e,(item (Wm e)).length,false)∧Ul (Uk (Wm e)++r) (item (Wm e)).length false=(((Zx2 (Wm e):Nat):Int),(Uk (Wm e)).length,false):=by
 have hb:=f.body
 have hs:=Zx9 (Wm e)
 constructor
 ·have:=Ur (b:=Wm e) (s:=Uk (Wm e)++r) (t:=0) (by omega) [] (code (Zx2 (Wm e):Nat)++r) (by simp [Uk]) rfl
  simpa using this
 have:=Qu (v:=(Zx2 (Wm e):Nat)) (by omega) (by omega) (s:=Uk (Wm e)++r) (t:=(item (Wm e)).length) (item (Wm e)) r (by simp [Uk]) rfl
 rw [this];simp [Uk]
def V9 (s:List UInt8):Option (Ent×Nat) :=
 let b:=Vl s 0 false
 let c:=Ul s b.2.1 b.2.2
 if c.2.2 then none else match I7 b.1 with
  | none=>none
  | some e=>if Jd e=(0,s.take c.2.1) then some (e,c.2.1) else none
theorem Km {s:List UInt8} {e:Ent} {n:Nat} (h:V9 s=some (e,n)):Kg s e n:=by
 unfold V9 at h
 simp only at h
 split at h
 ·simp at h
 split at h
 ·simp at h
 split at h
 ·rename_i he
  simp only [Option.some.injEq,Prod.mk.injEq] at h
  obtain ⟨rfl,rfl⟩:=h
  refine ⟨_,he,List.take_prefix _ _,?_⟩
  have:=(Jq (s:=s) (b:=(Vl s 0 false).2.2) (Jv (s:=s) (b:=false) (Nat.zero_le _)).1).1
  rw [Zp];omega
 simp at h
theorem Po {s:List UInt8} {e:Ent} {n:Nat} (h:Kg s e n):V9 s=some (e,n):=by
 obtain ⟨x,he,⟨r,rfl⟩,rfl⟩:=h
 obtain ⟨f,rfl,_⟩:=Eb he
 obtain ⟨h1,h2⟩:=wrap_text f r
 unfold V9
 simp only [h1,h2,Zy9 f]
 rw [List.take_left,he]
 simp
theorem Bj (s:List UInt8):∀ (n t:Nat) (b:Bool),(Vt s n t b).1.length=n
 | 0,_,_=>rfl
 | n+1,t,b=>by rw [Vt];simp [Bj s n]
theorem Tk {s:List UInt8} (h:V9 s=none) (e:Ent) (n:Nat):¬ Kg s e n:=fun k=>by rw [Po k] at h;simp at h
theorem Ic (b:List UInt8):0 < (Uk b).length:=by
 have:=Zs0 (Zx2 b:Nat)
 simp [Uk];omega
theorem first_pos {s:List UInt8} {e:Ent} {n:Nat} (h:Kg s e n):0 < n∧n≤s.length:=by
 obtain ⟨x,he,hp,rfl⟩:=h
 obtain ⟨_,rfl,_⟩:=Eb he
 exact ⟨Ic _,hp.length_le⟩
def Jf:Nat→List UInt8→List Ent×Nat
 | 0,_=>([],0)
 | k+1,s=>match V9 s with
  | none=>([],0)
  | some (e,n)=>let q:=Jf k (s.drop n);(e::q.1,n+q.2)
def Kq (s:List UInt8):List Ent×Nat:=Jf 4096 s
def appJ (s:List UInt8) (e:Ent):Int×List UInt8 :=
 if (Jd e).1≠0 then ((Jd e).1,[]) else
  if 4096≤(Kq s).1.length∨32768 < (Kq s).2+(Jd e).2.length then (7,[]) else (0,s.take (Kq s).2++(Jd e).2)
theorem Im:∀ (k:Nat) (s:List UInt8),(Jf k s).2≤s.length∧(Jf k s).1.length≤k
 | 0,_=>by simp [Jf]
 | k+1,s=>by
  rw [Jf]
  split
  ·simp
  rename_i e n h
  obtain ⟨h1,h2⟩:=first_pos (Km h)
  obtain ⟨h3,h4⟩:=Im k (s.drop n)
  rw [Z8] at h3
  simp only [Zl]
  exact ⟨by omega,by omega⟩
theorem My {k:Nat} {s:List UInt8} {e:Ent} {n:Nat} (h:Kg s e n):Jf (k+1) s=(e::(Jf k (s.drop n)).1,n+(Jf k (s.drop n)).2):=by
 rw [Jf,Po h]
theorem Ll {k:Nat} {s:List UInt8} (h:∀ e n,¬ Kg s e n):Jf k s=([],0):=by
 cases k with
 | zero=>rfl
 | succ k =>
  rw [Jf]
  cases hp:V9 s with
  | none=>rfl
  | some p=>exact absurd (Km hp) (h _ _)
def Vo:List Ent→List UInt8
 | []=>[]
 | e::r=>(Jd e).2++Vo r
theorem Bp:∀ a b:List Ent,Vo (a++b)=Vo a++Vo b
 | [],_=>rfl
 | e::r,b=>by simp [Vo,Bp r b]
theorem Nk (e:Ent) (n:Nat):¬ Kg [] e n:=fun h=>by
 have:=first_pos h
 simp at this;omega
theorem Sc {e:Ent} (h:(Jd e).1=0) (r:List UInt8):Kg ((Jd e).2++r) e (Jd e).2.length :=
 ⟨_,Prod.ext h rfl,List.prefix_append _ _,rfl⟩
theorem Fr:∀ (l:List Ent) (k:Nat) (r:List UInt8),l.length≤k→(∀ e∈l,(Jd e).1=0)→Jf k (Vo l++r)=(l++(Jf (k - l.length) r).1,(Vo l).length+(Jf (k - l.length) r).2)
 | [],k,r,_,_=>by simp [Vo]
 | e::l,0,_,h,_=>by simp at h
 | e::l,k+1,r,h,he=>by
  have h1:=Sc (he e (by simp)) (Vo l++r)
  rw [Vo,List.append_assoc,My h1,List.drop_left,Fr l k r (by simpa using h) (fun x hx=>he x (by simp [hx]))]
  simp [Nat.add_sub_add_right];omega
def Src (B:Nat) (w:World) (b:Nat):Prop :=
 ∃ (a:Option Addr) (len cap:Nat) (i:Nat),w.heap[b]?=some (.cells #[.slice a len cap,.int .i64 (i:Int)] 165 (0,0))∧B≤b∧len≤maxLen∧i≤len ∧
  (0 < len→∃ x,a=some x∧x.block < B∧∀ j,j < len→∃ z,w.cell? (x.add j)=some (.int .i64 z)∧I64 z)
theorem add_block (a:Addr) (n:Nat):(a.add n).block=a.block:=by unfold Addr.add;split<;>rfl
theorem Src.keep {B b:Nat} {w w':World} (h:Src B w b) (hk:∀ k,k < B∨k=b→w'.heap[k]?=w.heap[k]?):Src B w' b:=by
 obtain ⟨a,len,cap,i,hb,h0,hl,hi,hx⟩:=h
 refine ⟨a,len,cap,i,by rw [hk b (.inr rfl)];exact hb,h0,hl,hi,fun h=>?_⟩
 obtain ⟨x,e,hxb,hc⟩:=hx h
 exact ⟨x,e,hxb,fun j hj=>by
  obtain ⟨z,hz,hb⟩:=hc j hj
  exact ⟨z,by rw [← hz];exact World.cell?_of_block (hk _ (.inl (by rw [add_block];exact hxb))),hb⟩⟩
theorem Src.drew {B b:Nat} {w:World} (h:Src B w b):Src B w.drew b:=h
theorem Src.lt {B b:Nat} {w:World} (h:Src B w b):b < w.heap.size:=by
 obtain ⟨a,len,cap,i,hb,_⟩:=h
 exact (Array.getElem?_eq_some_iff.1 hb).1
theorem Src.ge {B b:Nat} {w:World} (h:Src B w b):B≤b:=by
 obtain ⟨a,len,cap,i,hb,h,_⟩:=h
 exact h
theorem Src.alloc {B b:Nat} {w:World} (h:Src B w b) (o:Obj):Src B (w.alloc o) b :=
 h.keep fun k hk=>Below.heap_alloc w o k (by have:=h.lt;have:=h.ge;omega)
theorem Src.setCell {B b:Nat} {w:World} (h:Src B w b) {p:Addr} (h1:B≤p.block) (h2:p.block≠b) (u:Value):Src B (w.setCell p u) b :=
 h.keep fun k hk=>Below.heap_setCell w p u k (by rintro rfl;rcases hk with hk|hk;omega;exact h2 hk)
theorem Src.ext {B b:Nat} {w w':World} (h:Src B w b) (he:Ext w w'):Src B w' b :=
 h.keep fun k hk=>he.block (by have:=h.lt;have:=h.ge;omega)
theorem Nf (a:Option Addr) (n c:Nat) (w:World) :
 Calls Tryz.prog 41 #[.slice a n c] w fun e w'=>e=.returned (.pointer (some ⟨w.heap.size,0,none⟩))∧w.alloc (.cells #[.slice a n c,.int .i64 0] 165)=w':=by
 go_enter Tryz.func41,Tryz.ntmps41
 go_wp2
 go_ret
 exact ⟨rfl,rfl⟩
theorem Gi {w:World} {a:Addr} {v:Value} (h:w.cell? (a.add 0)=some v):a.spot=none:=by simpa [Addr.add] using World.cell?_spot h
def Ztj (B b:Nat) (n:Int) (w:World) (e:Ending) (w':World):Prop:=∃ v:Nat,(v:Int) < n∧e=.returned (.int .i64 (v:Int))∧Src B w' b∧Chg (· = b) w w'∧w'.heap.size=w.heap.size
theorem Zvp (w:World) (b k k':Nat) (u:Value):Chg (· = b) w (((w.drewN k).setCell ⟨b,1,none⟩ u).drewN k') :=
 Chg.drewN (Chg.setCell (S:=(· = b)) (p:=⟨b,1,none⟩) (Chg.drewN (Chg.refl _ w) k) (.inl rfl) u) k'
theorem Zup {B:Nat} {w:World} {b i:Nat} {a:Option Addr} {len cap:Nat} (hb:w.heap[b]?=some (.cells #[.slice a len cap,.int .i64 (i:Int)] 165 (0,0))) (h0:B≤b) (hl:len≤maxLen) (hi:i < len)
 (hx:0 < len→∃ x,a=some x∧x.block < B∧∀ j,j < len→∃ z,w.cell? (x.add j)=some (.int .i64 z)∧I64 z) (k k':Nat):Src B (((w.drewN k).setCell ⟨b,1,none⟩ (.int .i64 ((i:Int)+1))).drewN k') b:=by
 refine ⟨a,len,cap,i+1,?_,h0,hl,by omega,fun h=>?_⟩
 ·have hb':(w.drewN k).heap[b]?=some (.cells #[.slice a len cap,.int .i64 (i:Int)] 165 (0,0)):=hb
  show ((w.drewN k).heap.modify b _)[b]?=_
  rw [Array.getElem?_modify,if_pos rfl,hb']
  rfl
 obtain ⟨x,hx1,hx2,hx3⟩:=hx h
 refine ⟨x,hx1,hx2,fun j hj=>?_⟩
 obtain ⟨z,hz1,hz2⟩:=hx3 j hj
 refine ⟨z,?_,hz2⟩
 have e:((w.drewN k).setCell ⟨b,1,none⟩ (.int .i64 ((i:Int)+1))).cell? (x.add j)=(w.drewN k).cell? (x.add j):=World.cell?_of_block (Below.heap_setCell _ _ _ _ (by rw [add_block];exact Nat.ne_of_lt (Nat.lt_of_lt_of_le hx2 h0)))
 exact e.trans hz1
theorem next_any (b:Nat) (n:Int) (h1:1≤n) (h2:n≤9223372036854775807) (w:World) (B:Nat) (hs:Src B w b) :
 Calls Tryz.prog 42 #[.pointer (some ⟨b,0,none⟩),.int .i64 n] w (Ztj B b n w):=by
 have HS:=Yw hs
 obtain ⟨a,len,cap,i,hb,hB,hl,hi,hx⟩:=hs
 have hc0:w.cell? ⟨b,0,none⟩=some (.slice a len cap):=by simp [World.cell?,hb]
 have hc1:w.cell? ⟨b,1,none⟩=some (.int .i64 (i:Int)):=by simp [World.cell?,hb]
 have hf1:w.frozen? ⟨b,1,none⟩=false:=by simp [World.frozen?,hb]
 by_cases hlt:i < len
 ·have HB:=Yw hb
  have HX:=Yw hx
  have HL:=Yw hl
  have HG:=Yw hB
  obtain ⟨x,rfl,hxb,hxc⟩:=hx (by omega)
  obtain ⟨z,hz,hzb⟩:=hxc i hlt
  obtain ⟨_,hz0,_⟩:=hxc 0 (by omega)
  have hspot:=Gi hz0
  clear hz0
  obtain ⟨xb,off,spot⟩:=x
  have hs0:spot=none:=hspot
  subst hs0
  have hz':w.cell? ⟨xb,off+i,none⟩=some (.int .i64 z):=by rw [← hz];congr 1;simp [Addr.add]
  have hd:decide ((len:Int)≤(i:Int))=false:=by simp;omega
  have hi0:(0:Int)≤(i:Int):=by omega
  have hi1:(i:Int) < (len:Int):=by omega
  have hne:¬ xb=b:=Nat.ne_of_lt (Nat.lt_of_lt_of_le hxb hB)
  unfold maxLen at hl
  clear hb hx hxc hz hxb hspot hi hB
  go_enter Tryz.func42,Tryz.ntmps42
  go_wp2
  go_quiet (fail)
  go_wp2
  go_quiet ((go_at_call 23;exact Calls.quiet_of_same ((pick_any _ _ h1 h2 _).mono fun _ _ h=>⟨h.1,h.2.symm⟩)))
  go_wp2
  go_ret
  exact ⟨(Tg z n).toNat,by have:=Dq z n h1;omega,by rw [Int.toNat_of_nonneg (Dq z n h1).1];rfl,Zup HB.out HG.out HL.out hlt HX.out _ _,Zvp _ _ _ _ _,by simp [World.setCell,World.drewN]⟩
 have hd:decide ((len:Int)≤(i:Int))=true:=by simp;omega
 have hl':len≤9223372036854775807:=by unfold maxLen at hl;omega
 go_enter Tryz.func42,Tryz.ntmps42
 go_wp2
 go_quiet (fail)
 go_wp2
 go_ret
 exact ⟨0,by omega,rfl,HS.out,(Chg.refl _ _).drewN _,rfl⟩
theorem Src.chg {B b:Nat} {w w':World} {S:Nat→Prop} (h:Src B w b) (c:Chg S w w') (hb:¬ S b) (hB:∀ k,k < B→¬ S k):Src B w' b:=by
 obtain ⟨a,len,cap,i,h1,h2,h3,h4,h5⟩:=h
 have hl:b < w.heap.size:=(Array.getElem?_eq_some_iff.1 h1).1
 refine ⟨a,len,cap,i,(c.block b hl hb).trans h1,h2,h3,h4,fun h0=>?_⟩
 obtain ⟨x,e,hx,hc⟩:=h5 h0
 refine ⟨x,e,hx,fun j hj=>?_⟩
 obtain ⟨z,hz,hi⟩:=hc j hj
 exact ⟨z,(c.cell (p:=x.add j) (by rcases Nat.lt_or_ge (x.add j).block w.heap.size with q|q;exact q;simp [World.cell?,Array.getElem?_eq_none q] at hz) (by rw [add_block];exact hB _ hx)).trans hz,hi⟩
def Gz (w:World) (a:Option Addr) (len:Nat):Prop:=len≤maxLen∧(0 < len→∃ x,a=some x∧x.block < w.heap.size∧∀ j,j < len→∃ z,w.cell? (x.add j)=some (.int .i64 z)∧I64 z)
theorem Gz.of_row {w:World} {a:Option Addr} {len cap:Nat} {zs:List Int} (h:IsRow .i64 w a len cap zs):Gz w a len:=by
 refine ⟨?_,fun hl=>?_⟩
 ·rcases h with ⟨_,rfl,_⟩ | ⟨x,_,h1,h2,_⟩
  ·unfold maxLen;omega
  omega
 rcases h with ⟨_,rfl,_⟩ | ⟨x,rfl,h1,h2,h3,h4,h5⟩
 ·omega
 have hc:∀ j,j < len→x.block < w.heap.size∧w.cell? (x.add j)=some (.int .i64 (zs.getD j 0)):=fun j hj=>by
  have hc:=h4 j (by omega)
  refine ⟨?_,hc⟩
  have hb:(x.add j).block < w.heap.size:=by
   rcases Nat.lt_or_ge (x.add j).block w.heap.size with hlt|hge
   ·exact hlt
   simp [World.cell?,Array.getElem?_eq_none hge] at hc
  rwa [add_block] at hb
 refine ⟨x,rfl,(hc 0 hl).1,fun j hj=>⟨zs.getD j 0,(hc j hj).2,?_⟩⟩
 have hj':j < zs.length:=by omega
 rw [List.getD_eq_getElem?_getD,Zz hj',Option.getD_some]
 exact Zu1 (h5 _ (List.getElem_mem hj'))
theorem Kj {w w1:World} {a:Option Addr} {len cap:Nat} (h:Gz w a len) (x:Ext w w1):Src w.heap.size (w1.alloc (.cells #[.slice a len cap,.int .i64 0] 165)) w1.heap.size:=by
 obtain ⟨h1,h2⟩:=h
 refine ⟨a,len,cap,0,heap_alloc_new _ _,x.size,h1,by omega,fun hl=>?_⟩
 obtain ⟨y,e,hy,hc⟩:=h2 hl
 refine ⟨y,e,hy,fun j hj=>?_⟩
 obtain ⟨z,hz,hi⟩:=hc j hj
 exact ⟨z,((x.alloc _).cell (by rw [add_block];exact hy)).trans hz,hi⟩
theorem Gm:(Tryz.prog.info? 51).map (fun i=>(i.zero,i.size,i.bytes))=some (some (.agg #[.int .i64 0,.int .i64 0,.string ⟨#[]⟩,.int .i64 0]),4,40):=by kernel_rfl
theorem Zta:Tryz.prog.underlying 25=some (.slice 51):=by kernel_rfl
theorem Ext.grownN {a w:World} (h:Ext a w):a.grownBy w none:=by
 have g:=h.chg (fun _=>False)
 exact ⟨g.os,g.tape,g.output,g.size,fun k hk _=>h.block hk⟩
theorem Tx {w w':World} {base:Nat} {e:TypeId} {size:Nat} {v:Value} {n:Nat} {xs:List Value} (h:w.ownsRow base e size v n xs) (x:Ext w w'):w'.ownsRow base e size v n xs :=
 h.kept x.grownN (Decidable.em _)
theorem lt_of_cell {w:World} {p:Addr} {v:Value} (h:w.cell? p=some v):p.block < w.heap.size:=by
 rcases Nat.lt_or_ge p.block w.heap.size with hlt|hge
 ·exact hlt
 simp [World.cell?,Array.getElem?_eq_none hge] at h
def Lt (rs:List Rc):List Value:=rs.flatMap Rc.cells
theorem Zxv (rs:List Rc):(Lt rs).length=rs.length * 4:=by
 induction rs with
 | nil=>rfl
 | cons r rs ih=>simp [Lt,Rc.cells] at ih ⊢;omega
theorem Zro (rs:List Rc) {k:Nat} (hk:k < rs.length) (j:Nat) (hj:j < 4):(Lt rs)[k * 4+j]?=(rs.getD k default).cells[j]?:=by
 induction rs generalizing k with
 | nil=>simp at hk
 | cons r rs ih =>
  have e:Lt (r::rs)=r.cells++Lt rs:=by simp [Lt]
  rw [e]
  cases k with
  | zero=>rw [Ze (by simp [Rc.cells];omega)];simp
  | succ k =>
   rw [Zd (by simp [Rc.cells];omega)]
   have:=ih (k:=k) (by simpa using hk)
   have e2:(k+1) * 4+j - r.cells.length=k * 4+j:=by simp [Rc.cells];omega
   rw [e2,this];simp
theorem K4 (g n:Nat):(⟨g,0,none⟩:Addr).add n=⟨g,n,none⟩:=by
 unfold Addr.add;by_cases hn:n=0<;>simp [hn]
theorem Vw {w:World} {base:Nat} {e:TypeId} {size:Nat} {v:Value} {n:Nat} {xs:List Value} (h:w.ownsRow base e size v n xs):∃ a c,v=.slice a n c:=by
 obtain ⟨_,⟨rfl,rfl⟩ | ⟨g,cap,_,rfl,_⟩⟩:=h
 ·exact ⟨_,_,rfl⟩
 exact ⟨_,_,rfl⟩
def Rd (w:World) (S:Nat→Prop) (z:Nat) (v:Value) (n:Nat) (xs:List Value):Prop :=
 xs.length=n * z∧∃ A c,v=.slice A n c∧n≤c∧c≤maxLen∧(0 < n→∃ g o,A=some ⟨g,o,none⟩∧S g∧g < w.heap.size∧∀ j u,xs[j]?=some u→w.cell? ⟨g,o+j,none⟩=some u)
section
variable {w w':World} {S T:Nat→Prop} {z n:Nat} {v:Value} {xs:List Value}
theorem Rd.nil (w:World) (S:Nat→Prop) (z:Nat):Rd w S z (.slice none 0 0) 0 []:=⟨by simp,none,0,rfl,Yo _,Nat.zero_le _,fun h=>absurd h (by omega)⟩
theorem Rd.keep (h:Rd w S z v n xs) (hs:w.heap.size≤w'.heap.size) (hk:∀ k,S k→k < w.heap.size→w'.heap[k]?=w.heap[k]?):Rd w' S z v n xs:=by
 obtain ⟨h1,A,c,rfl,h2,h3,h4⟩:=h
 refine ⟨h1,A,c,rfl,h2,h3,fun hn=>?_⟩
 obtain ⟨g,o,e,hS,hg,hc⟩:=h4 hn
 exact ⟨g,o,e,hS,Nat.lt_of_lt_of_le hg hs,fun j u hu=>(World.cell?_of_block (a:=⟨g,o+j,none⟩) (hk g hS hg)).trans (hc j u hu)⟩
theorem Rd.chg (h:Rd w S z v n xs) (c:Chg T w w') (hd:∀ k,S k→¬ T k):Rd w' S z v n xs:=h.keep c.size fun k hS hk=>c.block k hk (hd k hS)
theorem Rd.ext (h:Rd w S z v n xs) (x:Ext w w'):Rd w' S z v n xs:=h.keep x.size fun _ _ hk=>x.block hk
theorem Rd.mono (h:Rd w S z v n xs) (hST:∀ k,S k→k < w.heap.size→T k):Rd w T z v n xs:=by
 obtain ⟨h1,A,c,rfl,h2,h3,h4⟩:=h
 refine ⟨h1,A,c,rfl,h2,h3,fun hn=>?_⟩
 obtain ⟨g,o,e,hS,hg,hc⟩:=h4 hn
 exact ⟨g,o,e,hST g hS hg,hg,hc⟩
theorem Rd.len (h:Rd w S z v n xs):n≤maxLen:=by
 obtain ⟨_,A,c,_,h2,h3,_⟩:=h
 omega
theorem Rd.at_ (h:Rd w S z v n xs) {k:Nat} (hk:k < n):∃ g o c,v=.slice (some ⟨g,o,none⟩) n c∧n≤c∧c≤maxLen∧S g∧g < w.heap.size∧∀ j u,xs[j]?=some u→w.cell? ⟨g,o+j,none⟩=some u:=by
 obtain ⟨h1,A,c,rfl,h2,h3,h4⟩:=h
 obtain ⟨g,o,rfl,hS,hg,hc⟩:=h4 (by omega)
 exact ⟨g,o,c,rfl,h2,h3,hS,hg,hc⟩
theorem Rd.of_own {base:Nat} {e:TypeId} (h:w.ownsRow base e z v n xs) (hS:∀ k,v.ownBlock=some k→S k):Rd w S z v n xs:=by
 have hc:=fun g hg=>h.cells (g:=g) hg
 have hl:=h.lt
 obtain ⟨hlen,⟨hv,h0⟩ | ⟨g,cap,cur,hv,_,hb,hn,hm,_⟩⟩:=h
 ·subst h0 hv
  have hx:xs=[]:=List.eq_nil_of_length_eq_zero (by simpa using hlen)
  subst hx
  exact Rd.nil _ _ _
 refine ⟨hlen,_,cap,hv,hn,hm,fun _=>⟨g,0,rfl,hS g (by rw [hv];rfl),(hl g (by rw [hv];rfl)).2,fun j u hu=>?_⟩⟩
 have:=hc g (by rw [hv];rfl) j u hu
 rw [K4] at this
 rw [Nat.zero_add];exact this
end
section
variable {P:Program} (w:World)
theorem Fw (base:Nat) (t ty e:TypeId) (i:TypeInfo) (size:Nat) (ht:P.underlying t=some (.slice e)) (hi:P.info? e=some i)
 (v:Value) (n:Nat) (xs:List Value) (hown:w.ownsRow base e size v n xs) (c:Nat):(Builtin.append_ #[t,t] ty #[v,.slice none 0 c]).run P w=.ok v w:=by
 rcases hown.2 with ⟨rfl,rfl⟩ | ⟨g,cap,cur,rfl,_,_,hnc,_⟩
 ·simp [Builtin.append_,run_underlying ht,sizeOf,typeInfo,hi,Builtin.lenOf,Builtin.firstCells]
 simp [Builtin.append_,run_underlying ht,sizeOf,typeInfo,hi,Builtin.lenOf,Builtin.firstCells,hnc,storeCells]
structure K7 (w:World) (base:Nat) (e:TypeId) (size:Nat) (v:Value) (k:Nat) (ys:List Value) (v':Value) (w':World):Prop where
 own:w'.ownsRow base e size v' k ys
 grown:w.grownBy w' v.ownBlock
 at_:v'.ownBlock=v.ownBlock∨v'.ownBlock=some w.heap.size
theorem Ng (base:Nat) (t ty e:TypeId) (i:TypeInfo) (z:Value) (size bytes:Nat) (ht:P.underlying t=some (.slice e)) (hi:P.info? e=some i) (hz:i.zero=some z)
 (hsize:i.size=size) (hby:i.bytes=bytes) (hzs:z.cells.size=size) (hsz:0 < size)
 (v:Value) (n:Nat) (xs:List Value) (hown:w.ownsRow base e size v n xs)
 (S:Nat→Prop) (x:Value) (m:Nat) (news:List Value) (hr:Rd w S size x m news) (h1:∀ u∈news,u.oneCell'=true)
 (h63:n+m≤maxLen) (hbytes:(n+m) * bytes≤140737488355328) (hbase:base≤w.heap.size) :
 ∃ v' w',(Builtin.append_ #[t,t] ty #[v,x]).run P w=.ok v' w'∧K7 w base e size v (n+m) (xs++news) v' w':=by
 obtain ⟨hlen,A,c,rfl,_,_,hcells⟩:=hr
 rcases Nat.eq_zero_or_pos m with h0|h0
 ·subst h0
  have hn:news=[]:=List.eq_nil_of_length_eq_zero (by simpa using hlen)
  subst hn
  cases A with
  | none=>exact ⟨v,w,Fw w base t ty e i size ht hi v n xs hown c,by simpa using hown,World.grownBy.refl w _,.inl rfl⟩
  | some ad =>
   obtain ⟨v',w',hrun,h2,h3,_,h5⟩:=run_append_own_at (P:=P) w base t ty e i z size bytes ht hi hz hsize hby hzs hsz v n xs hown ad 0 c [] (by simp) (by simp) h1 h63 hbytes hbase
   exact ⟨v',w',hrun,h2,h3,h5⟩
 obtain ⟨g,o,rfl,_,_,hc⟩:=hcells h0
 obtain ⟨v',w',hrun,h2,h3,_,h5⟩:=run_append_own_at (P:=P) w base t ty e i z size bytes ht hi hz hsize hby hzs hsz v n xs hown ⟨g,o,none⟩ m c news hlen (fun j u hu=>by
  have e:(⟨g,o,none⟩:Addr).add j=⟨g,o+j,none⟩:=by unfold Addr.add;by_cases hj:j=0<;>simp [hj]
  rw [e];exact hc j u hu) h1 h63 hbytes hbase
 exact ⟨v',w',hrun,h2,h3,h5⟩
theorem Jw {o:Oper} {a:Act} {K:Act→World→Prop} {Q:Exit→Act→World→Prop} (s y:Operand) (t:TypeId)
 (ho:o.op=.call {callee:=.builtin .append,args:=#[s,y],argTypes:=#[t,t]})
 (base:Nat) (e:TypeId) (i:TypeInfo) (z:Value) (size bytes:Nat) (ht:P.underlying t=some (.slice e)) (hi:P.info? e=some i) (hz:i.zero=some z)
 (hsize:i.size=size) (hby:i.bytes=bytes) (hzs:z.cells.size=size) (hsz:0 < size)
 (v:Value) (n:Nat) (xs:List Value) (hs:a.eval s=v) (hown:w.ownsRow base e size v n xs)
 (S:Nat→Prop) (x:Value) (m:Nat) (news:List Value) (hx:a.eval y=x) (hr:Rd w S size x m news) (h1:∀ u∈news,u.oneCell'=true)
 (h63:n+m≤maxLen) (hbytes:(n+m) * bytes≤140737488355328) (hbase:base≤w.heap.size)
 (h:∀ v' w',K7 w base e size v (n+m) (xs++news) v' w'→K (a.put o.dst v') w'):o.wp P a w K Q:=by
 obtain ⟨v',w',hrun,h2⟩:=Ng (P:=P) w base t o.type e i z size bytes ht hi hz hsize hby hzs hsz v n xs hown S x m news hr h1 h63 hbytes hbase
 unfold Oper.wp execOp
 simp only [ho,resolve,invoke,builtin,Sem.run_bind,Sem.run_pure,Result.andThen_ok,List.map_toArray,List.map_cons,List.map_nil,hs,hx,hrun]
 exact h v' w' h2
theorem Vf {ops:Array Oper} {rest:List Oper} {o:Oper} {a:Act} {Q:Exit→Act→World→Prop} (hgd:o.guard=none) (s y:Operand) (t:TypeId)
 (ho:o.op=.call {callee:=.builtin .append,args:=#[s,y],argTypes:=#[t,t]})
 (base:Nat) (e:TypeId) (i:TypeInfo) (z:Value) (size bytes:Nat) (ht:P.underlying t=some (.slice e)) (hi:P.info? e=some i) (hz:i.zero=some z)
 (hsize:i.size=size) (hby:i.bytes=bytes) (hzs:z.cells.size=size) (hsz:0 < size)
 (v:Value) (n:Nat) (xs:List Value) (hs:a.eval s=v) (hown:w.ownsRow base e size v n xs)
 (S:Nat→Prop) (x:Value) (m:Nat) (news:List Value) (hx:a.eval y=x) (hr:Rd w S size x m news) (h1:∀ u∈news,u.oneCell'=true)
 (h63:n+m≤maxLen) (hbytes:(n+m) * bytes≤140737488355328) (hbase:base≤w.heap.size)
 (h:∀ v' w',K7 w base e size v (n+m) (xs++news) v' w'→wpList P ops Q rest (a.put o.dst v') w'):wpList P ops Q (o::rest) a w :=
 wpList_plain hgd fun _ hK=>Jw w s y t ho base e i z size bytes ht hi hz hsize hby hzs hsz v n xs hs hown S x m news hx hr h1 h63 hbytes hbase fun v' w' h2=>hK _ _ (h v' w' h2)
theorem Lw {ops:Array Oper} {o:Oper} {a:Act} {K:Act→World→Prop} {Q:Exit→Act→World→Prop} {E:Prop} (hgd:o.guard=none) (s y:Operand) (t:TypeId)
 (ho:o.op=.call {callee:=.builtin .append,args:=#[s,y],argTypes:=#[t,t]})
 (base:Nat) (e:TypeId) (i:TypeInfo) (z:Value) (size bytes:Nat) (ht:P.underlying t=some (.slice e)) (hi:P.info? e=some i) (hz:i.zero=some z)
 (hsize:i.size=size) (hby:i.bytes=bytes) (hzs:z.cells.size=size) (hsz:0 < size)
 (v:Value) (n:Nat) (xs:List Value) (hs:a.eval s=v) (hown:w.ownsRow base e size v n xs)
 (S:Nat→Prop) (x:Value) (m:Nat) (news:List Value) (hx:a.eval y=x) (hr:Rd w S size x m news) (h1:∀ u∈news,u.oneCell'=true)
 (h63:n+m≤maxLen) (hbytes:(n+m) * bytes≤140737488355328) (hbase:base≤w.heap.size)
 (h:∀ v' w',K7 w base e size v (n+m) (xs++news) v' w'→K (a.put o.dst v') w') :
 if Region.wanted o (yielded ops a.tmps)=true then Oper.wp P o a w K Q else E:=by
 have hw:Region.wanted o (yielded ops a.tmps)=true:=by simp [Region.wanted,hgd]
 rw [if_pos hw]
 exact Jw w s y t ho base e i z size bytes ht hi hz hsize hby hzs hsz v n xs hs hown S x m news hx hr h1 h63 hbytes hbase h
end
section
variable {P:Program} {ops:Array Oper} {Q:Exit→Act→World→Prop} {md:Region.Mode} {S:World→Prop}
def P5 (P:Program) (ops:Array Oper) (Q:Exit→Act→World→Prop) (z:Nat):Exit→Act→World→Prop
 | .normal,a,w=>wpOp P ops Q z (fun a' w'=>Q .normal a' w') a w
 | e,a,w=>Q e a w
theorem Zxw {z:Nat} {o:Oper} {a:Act} {w:World} {K:Act→World→Prop} (h:o.wp P a w K (P5 P ops Q z)):o.wp P a w K Q:=by
 unfold Oper.wp at *
 generalize (execOp a.eval o).run P w=r at *
 cases r with
 | ok n w' =>
  cases n<;>simp only [Oper.upon] at h ⊢ <;>
   first
    | exact h
    | exact Calls.mono h (fun e w'' he=>by
     cases e with
     | returned v=>exact he
     | panicked c=>exact he
     | outgrown=>obtain ⟨a,w,hq⟩:=he;exact ⟨a,w,hq⟩)
    | exact Rows.mono h (fun _ _ he=>he)
 | halt x w'=>cases x<;>simp only [Oper.upon] at h ⊢<;>exact h
theorem Rl {z i:Nat} {a:Act} {w:World} {K:Act→World→Prop} (h:wpOp P ops (P5 P ops Q z) i K a w):wpOp P ops Q i K a w:=by
 unfold wpOp at *
 split
 ·simpa [*] using h
 rename_i o ho
 simp only [ho] at h
 split
 ·rename_i hw
  simp only [hw,if_true] at h
  rcases h with h | ⟨h1,a',w',h2⟩
  ·exact .inl (Zxw h)
  exact .inr ⟨h1,a',w',h2⟩
 rename_i hw;simp only [hw] at h;exact h
def Zqu (md:Region.Mode) (ops:Array Oper) (z:Nat):Bool :=
 (List.range ops.size).all fun j=>(j == z || ((ops[z]?).map fun o=>o.after.any fun e=>Region.binds md e && e.on == j).getD false) && ((ops[j]?).map fun o=>o.after.all fun e=>!Region.binds md e || decide (e.on < j)).getD false
theorem mem_ready {listed:Array Bool} {i:Nat}:i∈Region.ready md ops listed↔i < ops.size∧listed.getD i true=false∧∃ o,ops[i]?=some o∧∀ e∈o.after,Region.binds md e=true→listed.getD e.on false=true:=by
 unfold Region.ready
 simp only [List.mem_filter,List.mem_range,Bool.and_eq_true,Bool.not_eq_true']
 constructor
 ·rintro ⟨h1,h2,h3⟩
  refine ⟨h1,h2,ops[i],Array.getElem?_eq_getElem h1,?_⟩
  rw [Array.getElem?_eq_getElem h1] at h3
  simp only [Option.map_some,Option.getD_some,Array.all_eq_true_iff_forall_mem,Bool.or_eq_true,Bool.not_eq_true'] at h3
  intro e he hb
  rcases h3 e he with h|h
  ·rw [hb] at h;simp at h
  exact h
 rintro ⟨h1,h2,o,ho,h3⟩
 refine ⟨h1,h2,?_⟩
 rw [ho]
 simp only [Option.map_some,Option.getD_some,Array.all_eq_true_iff_forall_mem,Bool.or_eq_true,Bool.not_eq_true']
 intro e he
 cases hb:Region.binds md e with
 | false=>exact .inl rfl
 | true=>exact .inr (h3 e he hb)
theorem Jt {listed:Array Bool} {i j:Nat} {d:Bool}:(listed.setIfInBounds i true).getD j d=if i=j∧j < listed.size then true else listed.getD j d:=by
 simp only [Array.getD_eq_getD_getElem?,Array.getElem?_setIfInBounds]
 by_cases h:i=j
 ·subst h
  by_cases h2:i < listed.size<;>simp [h2]
 simp [h]
theorem Zzo {z:Nat} (hz:z < ops.size) (hB:Zqu md ops z=true):∀ (fuel:Nat) (listed:Array Bool) (a:Act) (w:World),listed.size=ops.size→listed.getD z true=false →
 wpAnyH P md ops (P5 P ops Q z) S fuel (listed.setIfInBounds z true) a w→wpAny P md ops Q (fuel+1) listed a w:=by
 have hB':=hB
 simp only [Zqu,List.all_eq_true,List.mem_range,Bool.and_eq_true,Bool.or_eq_true,beq_iff_eq] at hB'
 have hall:∀ j,j < ops.size→j≠z→∀ oz,ops[z]?=some oz→∃ e∈oz.after,Region.binds md e=true∧e.on=j:=fun j hj hne oz hoz=>by
  rcases (hB' j hj).1 with h|h
  ·exact absurd h hne
  rw [hoz] at h
  simp only [Option.map_some,Option.getD_some,Array.any_eq_true'] at h
  obtain ⟨e,he,h⟩:=h
  simp only [Bool.and_eq_true,beq_iff_eq] at h
  exact ⟨e,he,h⟩
 have hbef:∀ j,j < ops.size→∀ o,ops[j]?=some o→∀ e∈o.after,Region.binds md e=true→e.on < j:=fun j hj o ho e he hb=>by
  have h:=(hB' j hj).2
  rw [ho] at h
  simp only [Option.map_some,Option.getD_some,Array.all_eq_true_iff_forall_mem,Bool.or_eq_true,Bool.not_eq_true',decide_eq_true_eq] at h
  rcases h e he with h|h
  ·rw [hb] at h;simp at h
  exact h
 have F1:∀ listed:Array Bool,listed.size=ops.size→listed.getD z true=false→Region.ready md ops listed≠[]:=fun listed hs hzl h0=>by
  have hj:∀ j,j < ops.size→listed.getD j true=true:=fun j=>by
   induction j using Nat.strongRecOn with
   | _ j ih =>
    intro hj
    cases hl:listed.getD j true with
    | true=>rfl
    | false =>
     exfalso
     have:j∈Region.ready md ops listed:=mem_ready.2 ⟨hj,hl,ops[j],Array.getElem?_eq_getElem hj,fun e he hb=>by
      have h1:=hbef j hj _ (Array.getElem?_eq_getElem hj) e he hb
      have h2:=ih e.on h1 (by omega)
      simp only [Array.getD_eq_getD_getElem?] at h2 ⊢
      rw [Array.getElem?_eq_getElem (by omega)] at h2 ⊢
      exact h2⟩
     rw [h0] at this;simp at this
  rw [hj z hz] at hzl;simp at hzl
 have F2:∀ (listed:Array Bool) i,listed.size=ops.size→i≠z→i∈Region.ready md ops listed→i∈Region.ready md ops (listed.setIfInBounds z true):=fun listed i hs hne hi=>by
  obtain ⟨h1,h2,o,h3,h4⟩:=mem_ready.1 hi
  refine mem_ready.2 ⟨h1,by rw [Jt,if_neg (fun h=>hne h.1.symm)];exact h2,o,h3,fun e he hb=>?_⟩
  rw [Jt]
  split
  ·rfl
  exact h4 e he hb
 have F3:∀ listed:Array Bool,listed.size=ops.size→z∈Region.ready md ops listed→Region.ready md ops (listed.setIfInBounds z true)=[]:=fun listed hs hi=>by
  obtain ⟨h1,h2,o,h3,h4⟩:=mem_ready.1 hi
  rw [List.eq_nil_iff_forall_not_mem]
  intro j hj
  obtain ⟨j1,j2,_⟩:=mem_ready.1 hj
  rw [Jt] at j2
  by_cases hjz:z=j
  ·rw [if_pos ⟨hjz,by omega⟩] at j2;simp at j2
  rw [if_neg (fun h=>hjz h.1)] at j2
  obtain ⟨e,he,hb,hon⟩:=hall j j1 (fun h=>hjz h.symm) o h3
  have h5:=h4 e he hb
  rw [hon] at h5
  simp only [Array.getD_eq_getD_getElem?] at h5 j2
  rw [Array.getElem?_eq_getElem (by omega)] at h5 j2
  simp at h5 j2
  rw [h5] at j2;simp at j2
 intro fuel
 induction fuel with
 | zero =>
  rintro listed a w hs hzl ⟨hr,hq⟩
  refine ⟨fun h=>absurd h (F1 listed hs hzl),fun i hi=>?_⟩
  by_cases hiz:i=z
  ·subst hiz
   exact wpOp_mono (fun a' w' h=>⟨F3 listed hs hi,h⟩) hq
  have:=F2 listed i hs hiz hi
  rw [hr] at this;simp at this
 | succ fuel ih =>
  rintro listed a w hs hzl ⟨hr,hq⟩
  refine ⟨fun h=>absurd h (F1 listed hs hzl),fun i hi=>?_⟩
  by_cases hiz:i=z
  ·subst hiz
   have h0:=F3 listed hs hi
   exact wpOp_mono (fun a' w' h=>⟨fun _=>h,by rw [h0];simp⟩) (hr h0)
  have h1:=hq i (F2 listed i hs hiz hi)
  refine wpOp_mono (fun a' w' h=>?_) (Rl h1)
  refine ih (listed.setIfInBounds i true) a' w' (by simp [hs]) (by rw [Jt,if_neg (fun h=>hiz h.1)];exact hzl) ?_
  rw [Array.setIfInBounds_comm true true hiz]
  exact h.2
theorem Zy4 {z:Nat} {o:Oper} {a:Act} {w:World} (ho:ops[z]?=some o) (hw:Region.wanted o (yielded ops a.tmps)=true) (h:o.wp P a w (fun a' w'=>Q .normal a' w') Q):P5 P ops Q z .normal a w:=by
 show wpOp P ops Q z (fun a' w'=>Q .normal a' w') a w
 unfold wpOp
 rw [ho]
 simp only [hw,if_true]
 exact .inl h
theorem Lu {id:Nat} {a:Act} {w:World} (z n:Nat) (hn:ops.size=n+1) (hz:z < ops.size) (hB:Zqu .any ops z=true) (hm:P.follows .mixedOrders=true) (hS:S w.drew)
 (h:S w.drew→wpAnyH P .any ops (P5 P ops Q z) S n ((Array.replicate ops.size false).setIfInBounds z true) a w.drew):(Code.region id ops true).wp P Q a w:=by
 refine wp_region_any hm ?_
 rw [hn]
 have h2:=h hS
 rw [hn] at h2
 have hz':z < n+1:=hn ▸ hz
 exact Zzo hz hB n _ a _ (by simp [hn]) (by simp [Array.getD_eq_getD_getElem?,hz']) h2
end
open Go.Maps (Tidy IsMap)
abbrev Kp:=ByteArray×Rc
def kb (k:ByteArray):List UInt8:=k.data.toList
theorem Iz {a b:ByteArray} (h:kb a=kb b):a=b:=ByteArray.ext (Array.ext' h)
theorem Zo7 {a b:ByteArray} (h:a≠b):kb a < kb b∨kb b < kb a:=by
 rcases List.le_total (kb a) (kb b) with h1|h1
 ·exact .inl (Ua h1 fun e=>h (Iz e))
 exact .inr (Ua h1 fun e=>h (Iz e).symm)
def Ib:List Kp→ByteArray→Rc
 | [],_=>default
 | p::l,k=>if p.1=k then p.2 else Ib l k
def Q5 (k:ByteArray) (r:Rc):Bool→List Kp→List Kp
 | true,[]=>[]
 | false,[]=>[(k,r)]
 | d,p::l=>if p.1=k then Q5 k r d l else if d=false∧kb k < kb p.1 then (k,r)::p::Q5 k r true l else p::Q5 k r d l
def Lo (l:List Kp) (k:ByteArray) (r:Rc):List Kp:=Q5 k r (r.st == 0) l
theorem Gk {a b:Bool} (h:a=b):Ending.returned (.bool a)=.returned (.bool b):=by rw [h]
theorem Gc:(Tryz.prog.info? 9).map (fun i=>(i.zero,i.size,i.bytes))=some (some (.string ⟨#[]⟩),1,16):=by kernel_rfl
theorem Zts:Tryz.prog.underlying 24=some (.slice 9):=by kernel_rfl
theorem Yg {p:Prop} [Decidable p] (h:¬ p):decide p=false:=decide_eq_false h
theorem Yf {p:Prop} [Decidable p] (h:p):decide p=true:=decide_eq_true h
theorem Ye (a:Option Addr) (b c:Nat) (a2:Option Addr) (b2 c2:Nat):(Value.slice a b c=Value.slice a2 b2 c2)=(a=a2∧b=b2∧c=c2):=Value.slice.injEq a b c a2 b2 c2
theorem Yd {A:Type _} (a b:A):(some a=some b)=(a=b):=Option.some.injEq a b
theorem Yc:(Value.tuple #[]:Value)=undef:=rfl
theorem Yb:(undef:Value)=.tuple #[]:=rfl
end
end Go.Proofs.YtnbclgbicnpmnaaGreat
