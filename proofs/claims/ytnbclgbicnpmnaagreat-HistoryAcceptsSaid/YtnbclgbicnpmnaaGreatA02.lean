/- Lemmas of this claim: Ground. Conditions: as named. -/
import Derived.BigQuiet
import Derived.Deep.DeepCutAuto
import Derived.Deep.QuietTactic
import Derived.Deep.RegionHeld3
import Derived.Laws.IdiomStrings
import Derived.Lib.Hide
import Derived.Maps.AppendAt
import Derived.Maps.OwnSet
import Derived.OwnWalk
import Derived.RegionTactic
import Derived.Sort.Grow
import Derived.Test.YtnbclgbicnpmnaaGreatProg
import Derived.WalkKit
import Derived.WalkLawsBesides
import Derived.WalkSpells
namespace Go.Proofs.YtnbclgbicnpmnaaGreat
open Go.RowKit Go.Sort
set_option maxHeartbeats 0
set_option maxRecDepth 100000
set_option linter.all false
def Zz:=@List.getElem?_eq_getElem
def Zy:=@List.mem_of_getElem?
def Zx:=@List.getElem?_cons_zero
def Zw:=@List.getElem?_cons_succ
def Zv:=@List.setIfInBounds_toArray
def Zu:=@List.set_cons_zero
def Zt:=@List.set_cons_succ
def Zs:=@List.length_append
def Zr:=@List.getElem?_eq_some_iff
def Zq:=@List.length_map
def Zp:=@List.length_take
def Zo:=@List.nil_append
def Zn:=@List.getElem?_map
def Zm:=@List.take_of_length_le
def Zl:=@List.length_cons
def Zk:=@List.length_nil
def Zj:=@List.mem_append
def Zi:=@List.mem_singleton
def Zh:=@List.not_mem_nil
def Zg:=@List.mem_cons
def Zf:=@List.length_set
def Ze:=@List.getElem?_append_left
def Zd:=@List.getElem?_append_right
def Zc:=@List.getElem?_set_self
def Zb:=@List.getElem?_set_ne
def Za:=@List.take_add_one
def Z2:=@List.length_replicate
def Z3:=@List.filterMap_cons
def Z4:=@List.filterMap_nil
def Z5:=@List.getElem?_toArray
def Z6:=@List.drop_succ_cons
def Z7:=@List.drop_zero
def Z8:=@List.take_succ_cons
def Z9:=@List.take_zero
def Yz:=@List.length_drop
def Yy:=@List.map_append
def Yx:=@List.getElem?_drop
def Yw:=@List.getElem?_take
def Yv:=@List.getElem?_set
def Yu:=@Go.wpQuiet_step
def Yt:=@Go.wpQuiet_nil
def Ys:=@Go.bodyPost_ret
def Yr:=@AllReadyH.cons
def Yq:=@AllReadyH.nil
def Yp:=@IntWalk.i64_in
def Yo:=@Classical.choose_spec
def Yn:=@Nat.le_refl
def Ym:=@_root_.ByteArray.size_append
def Zm1:=@Nat.lt_of_lt_of_le
def Zm2:=@if_neg
def Zm3:=@Array.getElem?_eq_some_iff
def Zm4:=@if_pos
def Zm5:=@Nat.le_trans
def Zm6:=@Option.some.inj
def Zm7:=@Go.info_parts
def Zm8:=@Go.wpAnyH_ready
def Zm9:=@Array.getElem?_eq_getElem
def Zlz:=@Array.getD_eq_getD_getElem?
def Zly:=@Go.Addr.mk.injEq
def Zlx:=@Nat.zero_le
def Zlw:=@List.mem_map
def Zlv:=@Go.wp_region_held_drew
def Zlu:=@decide_eq_true_eq
def Zlt:=@decide_eq_false_iff_not
def Zls:=@true_and
def Zlr:=@List.getElem?_of_mem
def Zlq:=@Nat.mul_le_mul_right
def Zlp:=@Bool.and_eq_true
def Zlo:=@Go.heap_alloc_new
def Zln:=@Go.World.cell?_setCell_other
def Zlm:=@List.nodup_cons
def Zll:=@List.eq_nil_of_length_eq_zero
def Zlk:=@Option.map_eq_some_iff
def Zlj:=@Nat.zero_add
def Zli:=@Go.ByteArray.toList_eq
def Zlh:=@Go.wpAnyH_done
def Zlg:=@List.map_cons
def Zlf:=@Go.World.frozen?_setCell
def Zle:=@Nat.eq_zero_or_pos
def Zld:=@List.pairwise_cons
def Zlc:=@and_true
def Zlb:=@Go.Lib.hid
def Zla:=@of_decide_eq_false
def Zl0:=@List.getD_eq_getElem?_getD
def Zl1:=@List.pairwise_iff_getElem
def Zl2:=@List.map_nil
def Zl3:=@Nat.add_zero
def Zl4:=@ByteArray.size_extract
def Zl5:=@Bool.eq_false_or_eq_true
def Zl6:=@Go.World.cell?_setCell_same
def Zl7:=@Int.le_refl
def Zl8:=@or_false
def Zl9:=@Nat.lt_or_ge
def Zkz:=@Bool.not_eq_true'
def Zky:=@of_decide_eq_true
def Zkx:=@Nat.add_assoc
def Zkw:=@Bool.eq_iff_iff
def Zkv:=@Go.wpAnyH_take
def Zku:=@Go.World.cell?_of_block
def Zkt:=@List.any_eq_true
def Zks:=@Go.IntKind.wrap_i64
def Zkr:=@Array.all_eq_true_iff_forall_mem
def Zkq:=@List.drop_of_length_le
def Zkp:=@Go.Result.andThen_ok
def Zko:=@List.foldl_append
def Zkn:=@Go.World.ownsRow_nil
def Zkm:=@List.mem_or_eq_of_mem_set
def Zkl:=@List.eq_nil_iff_forall_not_mem
def Zkk:=@List.length_singleton
def Zkj:=@Nat.add_sub_cancel
def Zki:=@Go.IntWalk.u8_in
def Zkh:=@List.mem_range
def Zkg:=@Go.Sort.permIn_trans
def Zkf:=@Go.Calls.mono
def Zke:=@Nat.lt_trichotomy
def Zkd:=@Int.toNat_of_nonneg
def Zkc:=@Nat.add_mul
def Zkb:=@Array.getElem?_modify
def Zka:=@Nat.lt_or_eq_of_le
def Zk0:=@List.lt_irrefl
def Zk1:=@Classical.byContradiction
def Zk2:=@Nat.one_mul
def Zk3:=@Option.map_some
def Zk4:=@Bool.or_eq_true
def Zk5:=@Nat.min_eq_left
def Zk6:=@Go.Sort.permIn_refl
def Zk7:=@Nat.le_succ
def Zk8:=@Option.getD_some
def Zk9:=@Nat.min_eq_right
def Zjz:=@Go.wpList_store_mid
def Zjy:=@List.mem_cons_self
def Zjx:=@List.filter_append
def Zjw:=@Go.Sem.run_bind
def Zjv:=@Go.Sem.run_pure
def Zju:=@List.map_map
def Zjt:=@List.take_sublist_take_left
def Zjs:=@Nat.lt_succ_iff
def Zjr:=@List.flatMap_cons
def Zjq:=@List.mem_cons_of_mem
def Zjp:=@List.drop_eq_getElem_cons
def Zjo:=@List.getLast?_eq_getElem?
def Zjn:=@List.all_eq_true
def Zjm:=@List.length_pos_iff
def Zjl:=@Array.length_toList
def Zjk:=@Option.isSome_iff_exists
def Zjj:=@List.set_set
def Zji:=@Go.RowKit.Below.heap_setCell
def Zjh:=@List.set_eq_take_append_cons_drop
def Zjg:=@List.range_succ
def Zjf:=@Option.toList_some
def Zje:=@List.foldl_cons
def Zjd:=@Array.getElem?_eq_none
def Zjc:=@List.ext_getElem?
def Zjb:=@Go.Maps.keyOf_int_mk
def Zja:=@Function.comp_def
def Zj0:=@List.Sublist.refl
def Zj1:=@List.take_sublist
def Zj2:=@Nat.ne_of_lt
def Zj3:=@Go.wpList_plain
def Zj4:=@List.map_set
def Zj5:=@getElem!_pos
def Zj6:=@Go.RowKit.Below.heap_alloc
def Zj7:=@List.countP_cons
def Zj8:=@Array.getElem?_setIfInBounds
def Zj9:=@List.any_append
def Ziz:=@List.set_append
def Ziy:=@List.append_nil
def Zix:=@Nat.div_le_self
def Ziw:=@Go.World.rangeAt_setCells_same
def Ziv:=@Go.Maps.has_put_other
def Ziu:=@Go.World.ownsMap_made
def Zit:=@List.countP_append
def Zis:=@Array.any_eq_true'
def Zir:=@Nat.mul_comm
def Ziq:=@List.getLastD_eq_getLast?
def Zip:=@List.length_range
def Zio:=@List.getElem?_take_of_lt
def Zin:=@Int.toNat_natCast
def Zim:=@List.eq_of_mem_replicate
def Zil:=@List.sublist_append_left
def Zik:=@List.lt_trans
def Zij:=@Prod.mk.injEq
def Zii:=@Nat.mul_one
def Zih:=@Nat.add_sub_cancel_left
def Zig:=@Go.Sort.permIn_mono
def Zif:=@List.getElem_mem
def Zie:=@List.getElem_map
def Zid:=@List.ext_getElem
def Zic:=@List.mem_filter
def Zib:=@List.cons.injEq
def Zia:=@Go.Maps.tidy_empty
def Zi0:=@Nat.zero_mul
def Zi1:=@Go.wpList_load_mid
def Zi2:=@Go.wpOp_mono
def Zi3:=@beq_iff_eq
def Zi4:=@Go.Sort.permIn_all
def Zi5:=@Nat.mul_le_mul
def Zi6:=@Int.mul_le_mul
def Zi7:=@if_true
def Zi8:=@Bool.false_or
def Zi9:=@if_false
def Zhz:=@Bool.true_and
def Zhy:=@dif_pos
section
def Y0(p:Prop):Prop:=p
theorem Y0.o{p:Prop}(h:Y0 p):p:=h
theorem Y4{p:Prop}(h:p):Y0 p:=h
theorem gnX{A:Sort _}(x:A):∃ y,x=y:=⟨x,rfl⟩
theorem geX{A:Type _}{l:List A}{i:Nat}(h:i<l.length):∃ s,l[i]?=some s:=⟨l[i],Zz h⟩
theorem LTl(i n:Nat)(h:i<n:=by omega):decide ((i:Int)<(n:Int))=true∧(0:Int)≤i∧(i:Int)<n:=⟨by simpa using h,by omega,by omega⟩
theorem LTd(i n:Nat)(h:i<n:=by omega):decide ((i:Int)<(n:Int))=true:=by simpa using h
theorem GEl(i n:Nat)(h:¬ i<n:=by omega):decide ((i:Int)<(n:Int))=false:=by simpa using h
def later(w:World)(d:Nat)(os:Array Obj):World:={heap:=w.heap++os,tape:=w.tape,drawn:=d,os:=w.os,output:=w.output}
theorem F6(w:World)(d d':Nat)(os os':Array Obj):later (later w d os) d' os'=later w d' (os++os'):=by simp[later,Array.append_assoc]
theorem Kz(w:World)(d:Nat):later w d #[]={w with drawn:=d}:=by simp[later]
theorem Zy6(w:World)(d:Nat)(os:Array Obj):(later w d os).heap.size=w.heap.size+os.size:=by simp[later]
theorem Fa(w:World)(d:Nat)(os:Array Obj){k:Nat}(h:k<w.heap.size):(later w d os).heap[k]?=w.heap[k]?:=by simp[later,Array.getElem?_append,h]
def Ext(w w':World):Prop:=∃ (d:Nat) (os:Array Obj),w'=later w d os
theorem Ext.refl(w:World):Ext w w:=⟨w.drawn,#[],by rw[Kz]⟩
theorem Ext.trans{a b c:World}(h:Ext a b)(k:Ext b c):Ext a c:=by
 obtain⟨n,os,rfl⟩:=h;obtain⟨m,os',rfl⟩:=k;exact⟨m,os++os',F6 _ _ _ _ _⟩
theorem Ext.drew{a w:World}(h:Ext a w):Ext a w.drew:=h.trans ⟨w.drawn+1,#[],by rw[Kz];rfl⟩
theorem Ext.drewN{a w:World}(h:Ext a w)(n:Nat):Ext a (w.drewN n):=h.trans ⟨w.drawn+n,#[],by rw[Kz];rfl⟩
theorem Ext.alloc{a w:World}(h:Ext a w)(o:Obj):Ext a (w.alloc o):=h.trans ⟨w.drawn,#[o],by unfold World.alloc later;rw[Array.append_singleton]⟩
theorem Ext.size{a w:World}(h:Ext a w):a.heap.size≤w.heap.size:=by
 obtain⟨n,os,rfl⟩:=h;rw[Zy6];omega
theorem Ext.block{a w:World}(h:Ext a w){k:Nat}(hk:k<a.heap.size):w.heap[k]?=a.heap[k]?:=by
 obtain⟨n,os,rfl⟩:=h;exact Fa _ _ _ hk
theorem Ext.below{a w:World}(h:Ext a w):Below a.heap.size a w:=by
 have hs:=h.size;have hb:∀ k,k<a.heap.size→w.heap[k]?=a.heap[k]?:=fun k hk=>h.block hk
 obtain⟨n,os,rfl⟩:=h;exact⟨rfl,rfl,rfl,hs,hb⟩
theorem Ext.cell{a w:World}(h:Ext a w){p:Addr}(hp:p.block<a.heap.size):w.cell? p=a.cell? p:=h.below.cell hp
theorem Ext.frozen{a w:World}(h:Ext a w){p:Addr}(hp:p.block<a.heap.size):w.frozen? p=a.frozen? p:=h.below.frozen hp
structure Chg(S:Nat→Prop)(w w':World):Prop where
 os:w'.os=w.os
 tape:w'.tape=w.tape
 output:w'.output=w.output
 size:w.heap.size≤w'.heap.size
 block:∀ k,k<w.heap.size→¬ S k→w'.heap[k]?=w.heap[k]?
theorem Chg.refl(S:Nat→Prop)(w:World):Chg S w w:=⟨rfl,rfl,rfl,Yn _,fun _ _ _=>rfl⟩
theorem Chg.trans{S:Nat→Prop}{a b c:World}(h:Chg S a b)(k:Chg S b c):Chg S a c :=
 ⟨k.os.trans h.os,k.tape.trans h.tape,k.output.trans h.output,Zm5 h.size k.size,fun i hi hS=>(k.block i (Zm1 hi h.size) hS).trans (h.block i hi hS)⟩
theorem Chg.mono{S T:Nat→Prop}{a b:World}(h:Chg S a b)(hST:∀ k,k<a.heap.size→S k→T k):Chg T a b :=
 ⟨h.os,h.tape,h.output,h.size,fun i hi hT=>h.block i hi fun hS=>hT (hST i hi hS)⟩
theorem Chg.drew{S:Nat→Prop}{a w:World}(h:Chg S a w):Chg S a w.drew:=h.trans ⟨rfl,rfl,rfl,Yn _,fun _ _ _=>rfl⟩
theorem Chg.drewN{S:Nat→Prop}{a w:World}(h:Chg S a w)(n:Nat):Chg S a (w.drewN n):=h.trans ⟨rfl,rfl,rfl,Yn _,fun _ _ _=>rfl⟩
theorem Chg.alloc{S:Nat→Prop}{a w:World}(h:Chg S a w)(o:Obj):Chg S a (w.alloc o) :=
 h.trans ⟨rfl,rfl,rfl,by simp,fun k hk _=>Zj6 w o k hk⟩
theorem Chg.setCell{S:Nat→Prop}{a w:World}(h:Chg S a w){p:Addr}(hp:S p.block∨a.heap.size≤p.block)(u:Value):Chg S a (w.setCell p u):=by
 refine⟨h.os,h.tape,h.output,by simpa[World.setCell]using h.size,fun k hk hS=>?_⟩;rw[Zji w p u k (by rintro rfl;rcases hp with hp|hp;exact hS hp;omega)];exact h.block k hk hS
theorem Chg.grown{S:Nat→Prop}{a w w':World}{row:Option Nat}(h:Chg S a w)(g:w.grownBy w' row)(hr:∀ k,row=some k→S k∨a.heap.size≤k):Chg S a w':=by
 refine⟨g.os.trans h.os,g.tape.trans h.tape,g.output.trans h.output,Zm5 h.size g.size,fun k hk hS=>?_⟩;rw[g.block k (Zm1 hk h.size) (fun e=>by rcases hr k e.symm with h1|h1;exact hS h1;omega)];exact h.block k hk hS
theorem Chg.cell{S:Nat→Prop}{a w:World}(h:Chg S a w){p:Addr}(hp:p.block<a.heap.size)(hS:¬ S p.block):w.cell? p=a.cell? p:=Zku (h.block p.block hp hS)
theorem Chg.frozen{S:Nat→Prop}{a w:World}(h:Chg S a w){p:Addr}(hp:p.block<a.heap.size)(hS:¬ S p.block):w.frozen? p=a.frozen? p:=World.frozen?_of_block (h.block p.block hp hS)
theorem Ext.chg{a w:World}(h:Ext a w)(S:Nat→Prop):Chg S a w:=by
 have hs:=h.size;have hb:∀ k,k<a.heap.size→¬ S k→w.heap[k]?=a.heap[k]?:=fun k hk _=>h.block hk
 obtain⟨n,os,rfl⟩:=h;exact⟨rfl,rfl,rfl,hs,hb⟩
theorem Ext.of_chg{a w:World}(h:Chg (fun _=>False) a w):Ext a w:=by
 refine⟨w.drawn,w.heap.extract a.heap.size,?_⟩;obtain⟨h1,h2,h3,h5,h6⟩:=h;cases w with
 | mk heap tape drawn os output =>
  simp only at h1 h2 h3 h5 h6;subst h1 h2 h3;have hh:heap=a.heap++heap.extract a.heap.size:=by
   apply Array.ext_getElem?;intro i;rw[Array.getElem?_append];by_cases hi:i<a.heap.size
   ·rw[Zm4 hi];exact h6 i hi (fun h=>h)
   rw[Zm2 hi,Array.getElem?_extract];split
   ·congr 1;omega
   rename_i hx;simp only[Array.getElem?_eq_none_iff];simp at hx;omega
  unfold later;simp only[World.mk.injEq];refine⟨hh,?_,?_,?_,?_⟩<;>trivial
theorem Ext.chg_new{S:Nat→Prop}{a b c:World}(h:Ext a b)(k:Chg S b c)(hS:∀ i,S i→a.heap.size≤i):Ext a c:=by
 have g:=h.chg (fun _=>False);exact Ext.of_chg ⟨k.os.trans g.os,k.tape.trans g.tape,k.output.trans g.output,Zm5 g.size k.size,
  fun i hi _=>(k.block i (Zm1 hi g.size) (fun hi'=>absurd (hS i hi') (by omega))).trans (h.block hi)⟩
theorem Ya{a w:World}(h:Ext a w){p:Addr}(hp:a.heap.size≤p.block)(u:Value):Ext a (w.setCell p u) :=
 Ext.of_chg ((h.chg _).setCell (.inr hp) u)
theorem Ext.grown{a w w':World}{row:Option Nat}(h:Ext a w)(g:w.grownBy w' row)(hr:∀ k,row=some k→a.heap.size≤k):Ext a w' :=
 Ext.of_chg ((h.chg _).grown g fun k hk=>.inr (hr k hk))
def I64(n:Int):Prop:=-9223372036854775808≤n∧n≤9223372036854775807
theorem Zvh{n:Int}(h:(Lit.int .i64 n).wf=true):I64 n:=by
 simp[Lit.wf,IntKind.min,IntKind.max,IntKind.signed,IntKind.bits]at h;unfold I64;omega
def IsRow(k:IntKind)(w:World)(a:Option Addr)(len cap:Nat)(zs:List Int):Prop :=
 (a=none∧len=0∧cap=0∧zs=[]) ∨
 ∃ x,a=some x∧len≤cap∧cap≤maxLen∧zs.length=cap∧(∀ i,i<zs.length→w.cell? (x.add i)=some (.int k (zs.getD i 0)))∧∀ n∈zs,(Lit.int k n).wf=true
structure Wf where
 n:Nat
 os:Array Obj
instance:Inhabited Wf:=⟨⟨0,#[]⟩⟩
theorem Y8{P:Program}{id:Nat}{Q:Exit→Act→World→Prop}{a:Act}{w:World}{l:List Oper}(hm:P.follows .mixedOrders=true)(hB:Region.lexB .any l.toArray=true)
 (h:wpQuiet P l.toArray (fun w'=>∃ p:Wf,w'=later w p.n p.os) (fun a'=>∀ w',Ext w w'→Q .normal a' w') l a):(Code.region id l.toArray true).wp P Q a w :=
 wp_region_quiet (C:=fun w'=>∃ p:Wf,w'=later w p.n p.os) hm hB ⟨⟨w.drawn+1,#[]⟩,by rw[Kz]⟩ (by
  have e:(fun a'=>∀ w',Ext w w'→Q .normal a' w')=(fun a'=>∀ w',(∃ p:Wf,w'=later w p.n p.os)→Q .normal a' w'):=by
   funext a';apply propext;constructor
   ·rintro h w' ⟨⟨n,os⟩,rfl⟩;exact h _ ⟨n,os,rfl⟩
   rintro h w' ⟨n,os,rfl⟩;exact h _ ⟨⟨n,os⟩,rfl⟩
  rw[e]at h;simpa using h)
theorem Oq(w:World)(n:Nat)(os:Array Obj)(b o:Nat)(h:b<w.heap.size):(later w n os).cell? ⟨b,o,none⟩=w.cell? ⟨b,o,none⟩ :=
 Zku (Fa w n os h)
theorem Xy{P:Program}{f:FuncId}{args:Array Value}{w:World}{n:Nat}{os:Array Obj}{v:Value}
 (h:Calls P f args (later w n os) fun e w'=>e=.returned v∧Ext (later w n os) w'):Calls P f args (later w n os) fun e w''=>e=.returned v∧∃ p:Wf,w''=later w p.n p.os :=
 h.mono fun _ _ ⟨he,q,os',hq⟩=>⟨he,⟨q,os++os'⟩,by rw[hq];exact F6 _ _ _ _ _⟩
theorem Xs{P:Program}{f:FuncId}{args:Array Value}{w:World}{n:Nat}{os:Array Obj}{v:Value}
 (h:Calls P f args (later w n os) fun e w'=>e=.returned v∧later w n os=w'):Calls P f args (later w n os) fun e w''=>e=.returned v∧∃ p:Wf,w''=later w p.n p.os :=
 h.mono fun _ _ ⟨he,hw⟩=>⟨he,⟨n,os⟩,hw.symm⟩
def G9(n:Int):Bool:=decide (0≤n)&&decide (n≤1073741824)
theorem Qb{n:Int}(h:0≤n∧n≤1073741824):G9 n=true:=by simp[G9,h.1,h.2]
theorem Lc{n:Int}(h:n<0∨1073741824<n):G9 n=false:=by simp[G9];omega
theorem Es(n:Int)(w:World):Calls Tryz.prog 173 #[.int .i64 n] w fun e w'=>e=.returned (.bool (G9 n))∧w=w':=by
 unfold G9;by_cases h:0≤n
 ·have h':decide (0≤n)=true:=by simpa using h
  go_enter Tryz.func173,Tryz.ntmps173;go_wp2;go_ret
  simp_all
 have h':decide (0≤n)=false:=by simpa using h
 go_enter Tryz.func173,Tryz.ntmps173;go_wp2;go_ret
 simp_all
theorem Um(n:Int)(w:World):Calls Tryz.prog 153 #[.int .i64 n] w fun e w'=>e=.returned (.bool (G9 n))∧w=w':=by
 unfold G9;by_cases h:0≤n
 ·have h':decide (0≤n)=true:=by simpa using h
  go_enter Tryz.func153,Tryz.ntmps153;go_wp2;go_ret
  simp_all
 have h':decide (0≤n)=false:=by simpa using h
 go_enter Tryz.func153,Tryz.ntmps153;go_wp2;go_ret
 simp_all
def In(v n:Int):Int:=(v%18446744073709551616)%n
theorem Zxs(v n:Int)(h1:1≤n)(h2:n≤9223372036854775807):wrap64 ((IntKind.u64.wrap v).tmod n)=In v n:=by
 have e:IntKind.u64.wrap v=v%18446744073709551616:=by simp[IntKind.wrap,IntKind.bits,IntKind.signed]
 unfold In wrap64;rw[e,Int.tmod_eq_emod_of_nonneg (by omega)];have:=Int.emod_lt_of_pos (v%18446744073709551616) (show 0<n by omega);have:=Int.emod_nonneg (v%18446744073709551616) (show n≠0 by omega);omega
theorem Ah(v n:Int)(h1:1≤n):0≤In v n∧In v n<n :=
 ⟨Int.emod_nonneg _ (by omega),Int.emod_lt_of_pos _ (by omega)⟩
theorem pick_any(v n:Int)(h1:1≤n)(h2:n≤9223372036854775807)(w:World) :
 Calls Tryz.prog 23 #[.int .i64 v,.int .i64 n] w fun e w'=>e=.returned (.int .i64 (In v n))∧w=w':=by
 have H:=Y4 (Zxs v n h1 h2);go_enter Tryz.func23,Tryz.ntmps23;go_wp2;go_ret;exact⟨by show Ending.returned (.int .i64 (wrap64 ((IntKind.u64.wrap v).tmod n)))=_;rw[H.o],rfl⟩
def Mt(now n:Int):Int:=if G9 now=false then 0 else if n<0 then now else if 1073741824-now<n then 1073741824 else now+n
theorem Zsj{now n:Int}(h:G9 now=false):Mt now n=0:=by simp[Mt,h]
theorem Ow{now n:Int}(h:G9 now=true)(hn:n<0):Mt now n=now:=by simp[Mt,h,hn]
theorem Ay{now n:Int}(h:G9 now=true)(hn:0≤n)(hf:1073741824-now<n):Mt now n=1073741824:=by simp[Mt,h,hf];omega
theorem Ov{now n:Int}(h:G9 now=true)(hn:0≤n)(hf:n≤1073741824-now):Mt now n=now+n:=by
 have h1:¬ n<0:=by omega
 have h2:¬ 1073741824-now<n:=by omega
 simp[Mt,h,h1,h2]
theorem R9(now n:Int)(w:World):Calls Tryz.prog 116 #[.int .i64 now,.int .i64 n] w fun e w'=>e=.returned (.int .i64 (Mt now n))∧w=w':=by
 by_cases ht:0≤now∧now≤1073741824
 ·obtain⟨t0,t1⟩:=ht;have hb:=Qb ⟨t0,t1⟩;by_cases hn:n<0
  ·have H:=Y4 (Ow hb hn);go_enter Tryz.func116,Tryz.ntmps116;go_wp2_with (go_at_call 153;refine(Um _ _).mono ?_;rintro e w' ⟨rfl,rfl⟩);go_ret;exact⟨by rw[H.o];rfl,rfl⟩
  have hn':0≤n:=by omega
  by_cases hm:1073741824<n
  ·have H:=Y4 (Ay hb hn' (by omega));go_enter Tryz.func116,Tryz.ntmps116;go_wp2_with (go_at_call 153;refine(Um _ _).mono ?_;rintro e w' ⟨rfl,rfl⟩);go_ret;exact⟨by rw[H.o];rfl,rfl⟩
  by_cases hf:1073741824-now<n
  ·have H:=Y4 (Ay hb hn' hf);have hlt:1073741824<now+n:=by omega
   go_enter Tryz.func116,Tryz.ntmps116;go_wp2_with (go_at_call 153;refine(Um _ _).mono ?_;rintro e w' ⟨rfl,rfl⟩);go_ret;exact⟨by rw[H.o];rfl,rfl⟩
  have hf':n≤1073741824-now:=by omega
  have H:=Y4 (Ov hb hn' hf');have hlt:now+n≤1073741824:=by omega
  go_enter Tryz.func116,Tryz.ntmps116;go_wp2_with (go_at_call 153;refine(Um _ _).mono ?_;rintro e w' ⟨rfl,rfl⟩);go_ret;exact⟨by rw[H.o];rfl,rfl⟩
 have hb:=Lc (show now<0∨1073741824<now by omega);have H:=Y4 (Zsj (n:=n) hb);go_enter Tryz.func116,Tryz.ntmps116;go_wp2_with (go_at_call 153;refine(Um _ _).mono ?_;rintro e w' ⟨rfl,rfl⟩);go_ret;exact⟨by rw[H.o];rfl,rfl⟩
def dlV(now ttl:Int):Int:=if G9 now=true∧1≤ttl∧ttl≤1073741824∧ttl≤1073741824-now then now+ttl else 0
def dlE(now ttl:Int):Int:=if G9 now=true∧1≤ttl∧ttl≤1073741824 then(if ttl≤1073741824-now then 0 else 8)else 3
theorem Zmz{a b c d:Int}(h:a=b)(k:c=d):Ending.returned (.tuple #[.int .i64 a,.int .i64 c])=.returned (.tuple #[.int .i64 b,.int .i64 d]):=by rw[h,k]
theorem Du(now ttl:Int)(w:World):Calls Tryz.prog 159 #[.int .i64 now,.int .i64 ttl] w fun e w'=>e=.returned (.tuple #[.int .i64 (dlV now ttl),.int .i64 (dlE now ttl)])∧w=w':=by
 by_cases ht:0≤now∧now≤1073741824
 ·obtain⟨t0,t1⟩:=ht;have hb:=Qb ⟨t0,t1⟩;have Hb:=Y4 hb;by_cases h1:ttl<1
  ·go_enter Tryz.func159,Tryz.ntmps159;go_wp2_with (go_at_call 173;refine(Es _ _).mono ?_;rintro e w' ⟨rfl,rfl⟩);go_ret2;exact⟨Zmz (by unfold dlV;rw[Zm2 (by omega)]) (by unfold dlE;rw[Zm2 (by omega)]),rfl⟩
  by_cases h2:1073741824<ttl
  ·go_enter Tryz.func159,Tryz.ntmps159;go_wp2_with (go_at_call 173;refine(Es _ _).mono ?_;rintro e w' ⟨rfl,rfl⟩);go_ret2;exact⟨Zmz (by unfold dlV;rw[Zm2 (by omega)]) (by unfold dlE;rw[Zm2 (by omega)]),rfl⟩
  by_cases h3:1073741824-now<ttl
  ·go_enter Tryz.func159,Tryz.ntmps159;go_wp2_with (go_at_call 173;refine(Es _ _).mono ?_;rintro e w' ⟨rfl,rfl⟩);go_ret2;exact⟨Zmz (by unfold dlV;rw[Zm2 (by omega)]) (by unfold dlE;rw[Zm4 ⟨Hb.o,by omega,by omega⟩,Zm2 (by omega)]),rfl⟩
  go_enter Tryz.func159,Tryz.ntmps159;go_wp2_with (go_at_call 173;refine(Es _ _).mono ?_;rintro e w' ⟨rfl,rfl⟩);go_ret2;exact⟨Zmz (by unfold dlV;rw[Zm4 ⟨Hb.o,by omega,by omega,by omega⟩]) (by unfold dlE;rw[Zm4 ⟨Hb.o,by omega,by omega⟩,Zm4 (by omega)]),rfl⟩
 have hb:=Lc (show now<0∨1073741824<now by omega);have Hb:=Y4 hb;go_enter Tryz.func159,Tryz.ntmps159;go_wp2_with (go_at_call 173;refine(Es _ _).mono ?_;rintro e w' ⟨rfl,rfl⟩);go_ret2;exact⟨Zmz (by unfold dlV;rw[Zm2 (by rw[Hb.o];simp)]) (by unfold dlE;rw[Zm2 (by rw[Hb.o];simp)]),rfl⟩
def Ke(st dl now:Int):Bool:=st==2||(st==1&&decide (now<dl))
theorem Qx(st ow dl now:Int)(nm:ByteArray)(w:World) :
 Calls Tryz.prog 163 #[.agg #[.int .i64 st,.int .i64 ow,.string nm,.int .i64 dl],.int .i64 now] w fun e w'=>e=.returned (.bool (Ke st dl now))∧Ext w w':=by
 unfold Ke;by_cases h2:st=2
 ·subst h2;go_enter Tryz.func163,Tryz.ntmps163;go_wp2;go_ret;exact⟨by simp,(Ext.refl _).alloc _⟩
 by_cases h1:st=1
 ·subst h1;go_enter Tryz.func163,Tryz.ntmps163;go_wp2;go_ret;exact⟨by simp,(Ext.refl _).alloc _⟩
 go_enter Tryz.func163,Tryz.ntmps163;go_wp2;go_ret;exact⟨by simp[h1,h2],(Ext.refl _).alloc _⟩
theorem Sz(st ow dl now:Int)(nm:ByteArray)(w:World) :
 Calls Tryz.prog 104 #[.agg #[.int .i64 st,.int .i64 ow,.string nm,.int .i64 dl],.int .i64 now] w fun e w'=>e=.returned (.bool (Ke st dl now))∧Ext w w':=by
 unfold Ke;by_cases h2:st=2
 ·subst h2;go_enter Tryz.func104,Tryz.ntmps104;go_wp2;go_ret;exact⟨by simp,(Ext.refl _).alloc _⟩
 by_cases h1:st=1
 ·subst h1;go_enter Tryz.func104,Tryz.ntmps104;go_wp2;go_ret;exact⟨by simp,(Ext.refl _).alloc _⟩
 go_enter Tryz.func104,Tryz.ntmps104;go_wp2;go_ret;exact⟨by simp[h1,h2],(Ext.refl _).alloc _⟩
structure Rc where
 st:Int
 ow:Int
 nm:ByteArray
 dl:Int
instance:Inhabited Rc:=⟨⟨0,0,⟨#[]⟩,0⟩⟩
def Rc.cells(r:Rc):List Value:=[.int .i64 r.st,.int .i64 r.ow,.string r.nm,.int .i64 r.dl]
theorem Zns:Tryz.prog.underlying 9=some .string:=by kernel_rfl
theorem Ztg:Tryz.prog.underlying 224=some (.slice 5):=by kernel_rfl
theorem Zqr:Tryz.prog.underlying 5=some (.int .u8):=by kernel_rfl
theorem Gd{a b:List UInt8}(h:a≤b)(hne:a≠b):a<b:=by
 rcases List.le_iff_lt_or_eq.1 h with h|h
 ·exact h
 exact absurd h hne
def bs(l:List UInt8):ByteArray:=⟨l.toArray⟩
theorem Zp2(l:List UInt8):(bs l).size=l.length:=by simp[bs,ByteArray.size]
def zz(v:Int):Nat:=if 0≤v then(2*v).toNat else(-2*v-1).toNat
def leb(u:Nat):List UInt8 :=
 if u<128 then[UInt8.ofNat u]else UInt8.ofNat (u%128+128)::leb (u/128)
termination_by u
decreasing_by omega
theorem Zmg{n:Nat}(h:n<256):(UInt8.ofNat n).toNat=n:=by
 simp[UInt8.toNat_ofNat'];omega
def code(v:Int):List UInt8:=leb (zz v)
structure Nm where
 a:ByteArray
 u:ByteArray
 k:ByteArray
def Wx(op:Int):Bool:=op==1||op==3
def srt:List Nm→Bool
 | []=>true
 | [_]=>true
 | x::y::r=>decide (x.k.data.toList<y.k.data.toList)&&srt (y::r)
structure Head where
 cl:Int
 op:Int
 ttl:Int
 tick:Int
 n:Int
 at_:Nat
 bad:Bool
def Src(B:Nat)(w:World)(b:Nat):Prop :=
 ∃ (a:Option Addr) (len cap:Nat) (i:Nat),w.heap[b]?=some (.cells #[.slice a len cap,.int .i64 (i:Int)] 165 (0,0))∧B≤b∧len≤maxLen∧i≤len ∧
  (0<len→∃ x,a=some x∧x.block<B∧∀ j,j<len→∃ z,w.cell? (x.add j)=some (.int .i64 z)∧I64 z)
theorem add_block(a:Addr)(n:Nat):(a.add n).block=a.block:=by unfold Addr.add;split<;>rfl
theorem Src.keep{B b:Nat}{w w':World}(h:Src B w b)(hk:∀ k,k<B∨k=b→w'.heap[k]?=w.heap[k]?):Src B w' b:=by
 obtain⟨a,len,cap,i,hb,h0,hl,hi,hx⟩:=h;refine⟨a,len,cap,i,by rw[hk b (.inr rfl)];exact hb,h0,hl,hi,fun h=>?_⟩;obtain⟨x,e,hxb,hc⟩:=hx h;exact⟨x,e,hxb,fun j hj=>by
  obtain⟨z,hz,hb⟩:=hc j hj;exact⟨z,by rw[← hz];exact Zku (hk _ (.inl (by rw[add_block];exact hxb))),hb⟩⟩
theorem Src.drew{B b:Nat}{w:World}(h:Src B w b):Src B w.drew b:=h
theorem Src.lt{B b:Nat}{w:World}(h:Src B w b):b<w.heap.size:=by
 obtain⟨a,len,cap,i,hb,_⟩:=h;exact(Zm3.1 hb).1
theorem Src.ge{B b:Nat}{w:World}(h:Src B w b):B≤b:=by
 obtain⟨a,len,cap,i,hb,h,_⟩:=h;exact h
theorem Src.alloc{B b:Nat}{w:World}(h:Src B w b)(o:Obj):Src B (w.alloc o) b :=
 h.keep fun k hk=>Zj6 w o k (by have:=h.lt;have:=h.ge;omega)
theorem Src.setCell{B b:Nat}{w:World}(h:Src B w b){p:Addr}(h1:B≤p.block)(h2:p.block≠b)(u:Value):Src B (w.setCell p u) b :=
 h.keep fun k hk=>Zji w p u k (by rintro rfl;rcases hk with hk|hk;omega;exact h2 hk)
theorem Src.ext{B b:Nat}{w w':World}(h:Src B w b)(he:Ext w w'):Src B w' b :=
 h.keep fun k hk=>he.block (by have:=h.lt;have:=h.ge;omega)
theorem Og(a:Option Addr)(n c:Nat)(w:World) :
 Calls Tryz.prog 41 #[.slice a n c] w fun e w'=>e=.returned (.pointer (some ⟨w.heap.size,0,none⟩))∧w.alloc (.cells #[.slice a n c,.int .i64 0] 165)=w':=by
 go_enter Tryz.func41,Tryz.ntmps41;go_wp2;go_ret;exact⟨rfl,rfl⟩
theorem Sv{w:World}{a:Addr}{v:Value}(h:w.cell? (a.add 0)=some v):a.spot=none:=by simpa[Addr.add]using World.cell?_spot h
def Zsq(B b:Nat)(n:Int)(w:World)(e:Ending)(w':World):Prop:=∃ v:Nat,(v:Int)<n∧e=.returned (.int .i64 (v:Int))∧Src B w' b∧Chg (· = b) w w'∧w'.heap.size=w.heap.size
theorem Zw7(w:World)(b k k':Nat)(u:Value):Chg (· = b) w (((w.drewN k).setCell ⟨b,1,none⟩ u).drewN k') :=
 Chg.drewN (Chg.setCell (S:=(· = b)) (p:=⟨b,1,none⟩) (Chg.drewN (Chg.refl _ w) k) (.inl rfl) u) k'
theorem Ztt{B:Nat}{w:World}{b i:Nat}{a:Option Addr}{len cap:Nat}(hb:w.heap[b]?=some (.cells #[.slice a len cap,.int .i64 (i:Int)] 165 (0,0)))(h0:B≤b)(hl:len≤maxLen)(hi:i<len)
 (hx:0<len→∃ x,a=some x∧x.block<B∧∀ j,j<len→∃ z,w.cell? (x.add j)=some (.int .i64 z)∧I64 z) (k k':Nat):Src B (((w.drewN k).setCell ⟨b,1,none⟩ (.int .i64 ((i:Int)+1))).drewN k') b:=by
 refine⟨a,len,cap,i+1,?_,h0,hl,by omega,fun h=>?_⟩
 ·have hb':(w.drewN k).heap[b]?=some (.cells #[.slice a len cap,.int .i64 (i:Int)] 165 (0,0)):=hb;show((w.drewN k).heap.modify b _)[b]?=_;rw[Zkb,Zm4 rfl,hb'];rfl
 obtain⟨x,hx1,hx2,hx3⟩:=hx h;refine⟨x,hx1,hx2,fun j hj=>?_⟩;obtain⟨z,hz1,hz2⟩:=hx3 j hj;refine⟨z,?_,hz2⟩;have e:((w.drewN k).setCell ⟨b,1,none⟩ (.int .i64 ((i:Int)+1))).cell? (x.add j)=(w.drewN k).cell? (x.add j):=Zku (Zji _ _ _ _ (by rw[add_block];exact Zj2 (Zm1 hx2 h0)));exact e.trans hz1
theorem next_any(b:Nat)(n:Int)(h1:1≤n)(h2:n≤9223372036854775807)(w:World)(B:Nat)(hs:Src B w b) :
 Calls Tryz.prog 42 #[.pointer (some ⟨b,0,none⟩),.int .i64 n] w (Zsq B b n w):=by
 have HS:=Y4 hs;obtain⟨a,len,cap,i,hb,hB,hl,hi,hx⟩:=hs;have hc0:w.cell? ⟨b,0,none⟩=some (.slice a len cap):=by simp[World.cell?,hb]
 have hc1:w.cell? ⟨b,1,none⟩=some (.int .i64 (i:Int)):=by simp[World.cell?,hb]
 have hf1:w.frozen? ⟨b,1,none⟩=false:=by simp[World.frozen?,hb]
 by_cases hlt:i<len
 ·have HB:=Y4 hb;have HX:=Y4 hx;have HL:=Y4 hl;have HG:=Y4 hB;obtain⟨x,rfl,hxb,hxc⟩:=hx (by omega);obtain⟨z,hz,hzb⟩:=hxc i hlt;obtain⟨_,hz0,_⟩:=hxc 0 (by omega);have hspot:=Sv hz0;clear hz0;obtain⟨xb,off,spot⟩:=x;have hs0:spot=none:=hspot;subst hs0;have hz':w.cell? ⟨xb,off+i,none⟩=some (.int .i64 z):=by rw[← hz];congr 1;simp[Addr.add]
  have hd:decide ((len:Int)≤(i:Int))=false:=by simp;omega
  have hi0:(0:Int)≤(i:Int):=by omega
  have hi1:(i:Int)<(len:Int):=by omega
  have hne:¬ xb=b:=Zj2 (Zm1 hxb hB);unfold maxLen at hl;clear hb hx hxc hz hxb hspot hi hB;go_enter Tryz.func42,Tryz.ntmps42;go_wp2;go_quiet (fail);go_wp2;go_quiet ((go_at_call 23;exact Calls.quiet_of_same ((pick_any _ _ h1 h2 _).mono fun _ _ h=>⟨h.1,h.2.symm⟩)));go_wp2;go_ret;exact⟨(In z n).toNat,by have:=Ah z n h1;omega,by rw[Zkd (Ah z n h1).1];rfl,Ztt HB.o HG.o HL.o hlt HX.o _ _,Zw7 _ _ _ _ _,by simp[World.setCell,World.drewN]⟩
 have hd:decide ((len:Int)≤(i:Int))=true:=by simp;omega
 have hl':len≤9223372036854775807:=by unfold maxLen at hl;omega
 go_enter Tryz.func42,Tryz.ntmps42;go_wp2;go_quiet (fail);go_wp2;go_ret;exact⟨0,by omega,rfl,HS.o,(Chg.refl _ _).drewN _,rfl⟩
theorem Src.chg{B b:Nat}{w w':World}{S:Nat→Prop}(h:Src B w b)(c:Chg S w w')(hb:¬ S b)(hB:∀ k,k<B→¬ S k):Src B w' b:=by
 obtain⟨a,len,cap,i,h1,h2,h3,h4,h5⟩:=h;have hl:b<w.heap.size:=(Zm3.1 h1).1;refine⟨a,len,cap,i,(c.block b hl hb).trans h1,h2,h3,h4,fun h0=>?_⟩;obtain⟨x,e,hx,hc⟩:=h5 h0;refine⟨x,e,hx,fun j hj=>?_⟩;obtain⟨z,hz,hi⟩:=hc j hj;exact⟨z,(c.cell (p:=x.add j) (by rcases Zl9 (x.add j).block w.heap.size with q|q;exact q;simp[World.cell?,Zjd q]at hz) (by rw[add_block];exact hB _ hx)).trans hz,hi⟩
def Kw(w:World)(a:Option Addr)(len:Nat):Prop:=len≤maxLen∧(0<len→∃ x,a=some x∧x.block<w.heap.size∧∀ j,j<len→∃ z,w.cell? (x.add j)=some (.int .i64 z)∧I64 z)
theorem Kw.of_row{w:World}{a:Option Addr}{len cap:Nat}{zs:List Int}(h:IsRow .i64 w a len cap zs):Kw w a len:=by
 refine⟨?_,fun hl=>?_⟩
 ·rcases h with⟨_,rfl,_⟩ | ⟨x,_,h1,h2,_⟩
  ·unfold maxLen;omega
  omega
 rcases h with⟨_,rfl,_⟩ | ⟨x,rfl,h1,h2,h3,h4,h5⟩
 ·omega
 have hc:∀ j,j<len→x.block<w.heap.size∧w.cell? (x.add j)=some (.int .i64 (zs.getD j 0)):=fun j hj=>by
  have hc:=h4 j (by omega);refine⟨?_,hc⟩;have hb:(x.add j).block<w.heap.size:=by
   rcases Zl9 (x.add j).block w.heap.size with hlt|hge
   ·exact hlt
   simp[World.cell?,Zjd hge]at hc
  rwa [add_block]at hb
 refine⟨x,rfl,(hc 0 hl).1,fun j hj=>⟨zs.getD j 0,(hc j hj).2,?_⟩⟩;have hj':j<zs.length:=by omega
 rw[Zl0,Zz hj',Zk8];exact Zvh (h5 _ (Zif hj'))
theorem Uj{w w1:World}{a:Option Addr}{len cap:Nat}(h:Kw w a len)(x:Ext w w1):Src w.heap.size (w1.alloc (.cells #[.slice a len cap,.int .i64 0] 165)) w1.heap.size:=by
 obtain⟨h1,h2⟩:=h;refine⟨a,len,cap,0,Zlo _ _,x.size,h1,by omega,fun hl=>?_⟩;obtain⟨y,e,hy,hc⟩:=h2 hl;refine⟨y,e,hy,fun j hj=>?_⟩;obtain⟨z,hz,hi⟩:=hc j hj;exact⟨z,((x.alloc _).cell (by rw[add_block];exact hy)).trans hz,hi⟩
theorem Je:(Tryz.prog.info? 51).map (fun i=>(i.zero,i.size,i.bytes))=some (some (.agg #[.int .i64 0,.int .i64 0,.string ⟨#[]⟩,.int .i64 0]),4,40):=by kernel_rfl
theorem Af:Tryz.prog.underlying 25=some (.slice 51):=by kernel_rfl
theorem Ext.grownN{a w:World}(h:Ext a w):a.grownBy w none:=by
 have g:=h.chg (fun _=>False);exact⟨g.os,g.tape,g.output,g.size,fun k hk _=>h.block hk⟩
theorem Up{w w':World}{base:Nat}{e:TypeId}{size:Nat}{v:Value}{n:Nat}{xs:List Value}(h:w.ownsRow base e size v n xs)(x:Ext w w'):w'.ownsRow base e size v n xs :=
 h.kept x.grownN (Decidable.em _)
theorem lt_of_cell{w:World}{p:Addr}{v:Value}(h:w.cell? p=some v):p.block<w.heap.size:=by
 rcases Zl9 p.block w.heap.size with hlt|hge
 ·exact hlt
 simp[World.cell?,Zjd hge]at h
def J8(rs:List Rc):List Value:=rs.flatMap Rc.cells
theorem Zvp(rs:List Rc):(J8 rs).length=rs.length*4:=by
 induction rs with
 | nil=>rfl
 | cons r rs ih=>simp[J8,Rc.cells]at ih⊢;omega
theorem Nw(rs:List Rc)(r:Rc):J8 (rs++[r])=J8 rs++r.cells:=by simp[J8]
theorem Zs3(rs:List Rc){k:Nat}(hk:k<rs.length)(j:Nat)(hj:j<4):(J8 rs)[k*4+j]?=(rs.getD k default).cells[j]?:=by
 induction rs generalizing k with
 | nil=>simp at hk
 | cons r rs ih =>
  have e:J8 (r::rs)=r.cells++J8 rs:=by simp[J8]
  rw[e];cases k with
  | zero=>rw[Ze (by simp[Rc.cells];omega)];simp
  | succ k =>
   rw[Zd (by simp[Rc.cells];omega)];have:=ih (k:=k) (by simpa using hk);have e2:(k+1)*4+j-r.cells.length=k*4+j:=by simp[Rc.cells];omega
   rw[e2,this];simp
theorem Ox(g n:Nat):(⟨g,0,none⟩:Addr).add n=⟨g,n,none⟩:=by
 unfold Addr.add;by_cases hn:n=0<;>simp[hn]
theorem Wu{w:World}{base:Nat}{e:TypeId}{size:Nat}{v:Value}{n:Nat}{xs:List Value}(h:w.ownsRow base e size v n xs):∃ a c,v=.slice a n c:=by
 obtain⟨_,⟨rfl,rfl⟩ | ⟨g,cap,_,rfl,_⟩⟩:=h
 ·exact⟨_,_,rfl⟩
 exact⟨_,_,rfl⟩
def Rd(w:World)(S:Nat→Prop)(z:Nat)(v:Value)(n:Nat)(xs:List Value):Prop :=
 xs.length=n*z∧∃ A c,v=.slice A n c∧n≤c∧c≤maxLen∧(0<n→∃ g o,A=some ⟨g,o,none⟩∧S g∧g<w.heap.size∧∀ j u,xs[j]?=some u→w.cell? ⟨g,o+j,none⟩=some u)
section
variable {w w':World} {S T:Nat→Prop} {z n:Nat} {v:Value} {xs:List Value}
theorem Rd.nil(w:World)(S:Nat→Prop)(z:Nat):Rd w S z (.slice none 0 0) 0 []:=⟨by simp,none,0,rfl,Yn _,Zlx _,fun h=>absurd h (by omega)⟩
theorem Rd.keep(h:Rd w S z v n xs)(hs:w.heap.size≤w'.heap.size)(hk:∀ k,S k→k<w.heap.size→w'.heap[k]?=w.heap[k]?):Rd w' S z v n xs:=by
 obtain⟨h1,A,c,rfl,h2,h3,h4⟩:=h;refine⟨h1,A,c,rfl,h2,h3,fun hn=>?_⟩;obtain⟨g,o,e,hS,hg,hc⟩:=h4 hn;exact⟨g,o,e,hS,Zm1 hg hs,fun j u hu=>(Zku (a:=⟨g,o+j,none⟩) (hk g hS hg)).trans (hc j u hu)⟩
theorem Rd.chg(h:Rd w S z v n xs)(c:Chg T w w')(hd:∀ k,S k→¬ T k):Rd w' S z v n xs:=h.keep c.size fun k hS hk=>c.block k hk (hd k hS)
theorem Rd.ext(h:Rd w S z v n xs)(x:Ext w w'):Rd w' S z v n xs:=h.keep x.size fun _ _ hk=>x.block hk
theorem Rd.drew(h:Rd w S z v n xs):Rd w.drew S z v n xs:=h
theorem Rd.mono(h:Rd w S z v n xs)(hST:∀ k,S k→k<w.heap.size→T k):Rd w T z v n xs:=by
 obtain⟨h1,A,c,rfl,h2,h3,h4⟩:=h;refine⟨h1,A,c,rfl,h2,h3,fun hn=>?_⟩;obtain⟨g,o,e,hS,hg,hc⟩:=h4 hn;exact⟨g,o,e,hST g hS hg,hg,hc⟩
theorem Rd.len(h:Rd w S z v n xs):n≤maxLen:=by
 obtain⟨_,A,c,_,h2,h3,_⟩:=h;omega
theorem Rd.at_(h:Rd w S z v n xs){k:Nat}(hk:k<n):∃ g o c,v=.slice (some ⟨g,o,none⟩) n c∧n≤c∧c≤maxLen∧S g∧g<w.heap.size∧∀ j u,xs[j]?=some u→w.cell? ⟨g,o+j,none⟩=some u:=by
 obtain⟨h1,A,c,rfl,h2,h3,h4⟩:=h;obtain⟨g,o,rfl,hS,hg,hc⟩:=h4 (by omega);exact⟨g,o,c,rfl,h2,h3,hS,hg,hc⟩
theorem Rd.of_own{base:Nat}{e:TypeId}(h:w.ownsRow base e z v n xs)(hS:∀ k,v.ownBlock=some k→S k):Rd w S z v n xs:=by
 have hc:=fun g hg=>h.cells (g:=g) hg
 have hl:=h.lt;obtain⟨hlen,⟨hv,h0⟩ | ⟨g,cap,cur,hv,_,hb,hn,hm,_⟩⟩:=h
 ·subst h0 hv;have hx:xs=[]:=Zll (by simpa using hlen);subst hx;exact Rd.nil _ _ _
 refine⟨hlen,_,cap,hv,hn,hm,fun _=>⟨g,0,rfl,hS g (by rw[hv];rfl),(hl g (by rw[hv];rfl)).2,fun j u hu=>?_⟩⟩;have:=hc g (by rw[hv];rfl) j u hu;rw[Ox]at this;rw[Zlj];exact this
end
section
variable {P:Program} (w:World)
theorem Lk(base:Nat)(t ty e:TypeId)(i:TypeInfo)(size:Nat)(ht:P.underlying t=some (.slice e))(hi:P.info? e=some i)
 (v:Value) (n:Nat) (xs:List Value) (hown:w.ownsRow base e size v n xs) (c:Nat):(Builtin.append_ #[t,t] ty #[v,.slice none 0 c]).run P w=.ok v w:=by
 rcases hown.2 with⟨rfl,rfl⟩ | ⟨g,cap,cur,rfl,_,_,hnc,_⟩
 ·simp[Builtin.append_,run_underlying ht,sizeOf,typeInfo,hi,Builtin.lenOf,Builtin.firstCells]
 simp[Builtin.append_,run_underlying ht,sizeOf,typeInfo,hi,Builtin.lenOf,Builtin.firstCells,hnc,storeCells]
structure Bv(w:World)(base:Nat)(e:TypeId)(size:Nat)(v:Value)(k:Nat)(ys:List Value)(v':Value)(w':World):Prop where
 own:w'.ownsRow base e size v' k ys
 grown:w.grownBy w' v.ownBlock
 at_:v'.ownBlock=v.ownBlock∨v'.ownBlock=some w.heap.size
theorem Pr(base:Nat)(t ty e:TypeId)(i:TypeInfo)(z:Value)(size bytes:Nat)(ht:P.underlying t=some (.slice e))(hi:P.info? e=some i)(hz:i.zero=some z)
 (hsize:i.size=size) (hby:i.bytes=bytes) (hzs:z.cells.size=size) (hsz:0<size)
 (v:Value) (n:Nat) (xs:List Value) (hown:w.ownsRow base e size v n xs)
 (S:Nat→Prop) (x:Value) (m:Nat) (news:List Value) (hr:Rd w S size x m news) (h1:∀ u∈news,u.oneCell'=true)
 (h63:n+m≤maxLen) (hbytes:(n+m)*bytes≤140737488355328) (hbase:base≤w.heap.size) :
 ∃ v' w',(Builtin.append_ #[t,t] ty #[v,x]).run P w=.ok v' w'∧Bv w base e size v (n+m) (xs++news) v' w':=by
 obtain⟨hlen,A,c,rfl,_,_,hcells⟩:=hr;rcases Zle m with h0|h0
 ·subst h0;have hn:news=[]:=Zll (by simpa using hlen);subst hn;cases A with
  | none=>exact⟨v,w,Lk w base t ty e i size ht hi v n xs hown c,by simpa using hown,World.grownBy.refl w _,.inl rfl⟩
  | some ad =>
   obtain⟨v',w',hrun,h2,h3,_,h5⟩:=run_append_own_at (P:=P) w base t ty e i z size bytes ht hi hz hsize hby hzs hsz v n xs hown ad 0 c [] (by simp) (by simp) h1 h63 hbytes hbase;exact⟨v',w',hrun,h2,h3,h5⟩
 obtain⟨g,o,rfl,_,_,hc⟩:=hcells h0;obtain⟨v',w',hrun,h2,h3,_,h5⟩:=run_append_own_at (P:=P) w base t ty e i z size bytes ht hi hz hsize hby hzs hsz v n xs hown ⟨g,o,none⟩ m c news hlen (fun j u hu=>by
  have e:(⟨g,o,none⟩:Addr).add j=⟨g,o+j,none⟩:=by unfold Addr.add;by_cases hj:j=0<;>simp[hj]
  rw[e];exact hc j u hu) h1 h63 hbytes hbase
 exact⟨v',w',hrun,h2,h3,h5⟩
theorem Jd{o:Oper}{a:Act}{K:Act→World→Prop}{Q:Exit→Act→World→Prop}(s y:Operand)(t:TypeId)
 (ho:o.op=.call {callee:=.builtin .append,args:=#[s,y],argTypes:=#[t,t]})
 (base:Nat) (e:TypeId) (i:TypeInfo) (z:Value) (size bytes:Nat) (ht:P.underlying t=some (.slice e)) (hi:P.info? e=some i) (hz:i.zero=some z)
 (hsize:i.size=size) (hby:i.bytes=bytes) (hzs:z.cells.size=size) (hsz:0<size)
 (v:Value) (n:Nat) (xs:List Value) (hs:a.eval s=v) (hown:w.ownsRow base e size v n xs)
 (S:Nat→Prop) (x:Value) (m:Nat) (news:List Value) (hx:a.eval y=x) (hr:Rd w S size x m news) (h1:∀ u∈news,u.oneCell'=true)
 (h63:n+m≤maxLen) (hbytes:(n+m)*bytes≤140737488355328) (hbase:base≤w.heap.size)
 (h:∀ v' w',Bv w base e size v (n+m) (xs++news) v' w'→K (a.put o.dst v') w'):o.wp P a w K Q:=by
 obtain⟨v',w',hrun,h2⟩:=Pr (P:=P) w base t o.type e i z size bytes ht hi hz hsize hby hzs hsz v n xs hown S x m news hr h1 h63 hbytes hbase;unfold Oper.wp execOp;simp only[ho,resolve,invoke,builtin,Zjw,Zjv,Zkp,List.map_toArray,Zlg,Zl2,hs,hx,hrun];exact h v' w' h2
theorem Vh{ops:Array Oper}{rest:List Oper}{o:Oper}{a:Act}{Q:Exit→Act→World→Prop}(hgd:o.guard=none)(s y:Operand)(t:TypeId)
 (ho:o.op=.call {callee:=.builtin .append,args:=#[s,y],argTypes:=#[t,t]})
 (base:Nat) (e:TypeId) (i:TypeInfo) (z:Value) (size bytes:Nat) (ht:P.underlying t=some (.slice e)) (hi:P.info? e=some i) (hz:i.zero=some z)
 (hsize:i.size=size) (hby:i.bytes=bytes) (hzs:z.cells.size=size) (hsz:0<size)
 (v:Value) (n:Nat) (xs:List Value) (hs:a.eval s=v) (hown:w.ownsRow base e size v n xs)
 (S:Nat→Prop) (x:Value) (m:Nat) (news:List Value) (hx:a.eval y=x) (hr:Rd w S size x m news) (h1:∀ u∈news,u.oneCell'=true)
 (h63:n+m≤maxLen) (hbytes:(n+m)*bytes≤140737488355328) (hbase:base≤w.heap.size)
 (h:∀ v' w',Bv w base e size v (n+m) (xs++news) v' w'→wpList P ops Q rest (a.put o.dst v') w'):wpList P ops Q (o::rest) a w :=
 Zj3 hgd fun _ hK=>Jd w s y t ho base e i z size bytes ht hi hz hsize hby hzs hsz v n xs hs hown S x m news hx hr h1 h63 hbytes hbase fun v' w' h2=>hK _ _ (h v' w' h2)
theorem Gp{ops:Array Oper}{o:Oper}{a:Act}{K:Act→World→Prop}{Q:Exit→Act→World→Prop}{E:Prop}(hgd:o.guard=none)(s y:Operand)(t:TypeId)
 (ho:o.op=.call {callee:=.builtin .append,args:=#[s,y],argTypes:=#[t,t]})
 (base:Nat) (e:TypeId) (i:TypeInfo) (z:Value) (size bytes:Nat) (ht:P.underlying t=some (.slice e)) (hi:P.info? e=some i) (hz:i.zero=some z)
 (hsize:i.size=size) (hby:i.bytes=bytes) (hzs:z.cells.size=size) (hsz:0<size)
 (v:Value) (n:Nat) (xs:List Value) (hs:a.eval s=v) (hown:w.ownsRow base e size v n xs)
 (S:Nat→Prop) (x:Value) (m:Nat) (news:List Value) (hx:a.eval y=x) (hr:Rd w S size x m news) (h1:∀ u∈news,u.oneCell'=true)
 (h63:n+m≤maxLen) (hbytes:(n+m)*bytes≤140737488355328) (hbase:base≤w.heap.size)
 (h:∀ v' w',Bv w base e size v (n+m) (xs++news) v' w'→K (a.put o.dst v') w') :
 if Region.wanted o (yielded ops a.tmps)=true then Oper.wp P o a w K Q else E:=by
 have hw:Region.wanted o (yielded ops a.tmps)=true:=by simp[Region.wanted,hgd]
 rw[Zm4 hw];exact Jd w s y t ho base e i z size bytes ht hi hz hsize hby hzs hsz v n xs hs hown S x m news hx hr h1 h63 hbytes hbase h
end
section
variable {P:Program} {ops:Array Oper} {Q:Exit→Act→World→Prop} {md:Region.Mode} {S:World→Prop}
def Pg(P:Program)(ops:Array Oper)(Q:Exit→Act→World→Prop)(z:Nat):Exit→Act→World→Prop
 | .normal,a,w=>wpOp P ops Q z (fun a' w'=>Q .normal a' w') a w
 | e,a,w=>Q e a w
theorem Zt3{z:Nat}{o:Oper}{a:Act}{w:World}{K:Act→World→Prop}(h:o.wp P a w K (Pg P ops Q z)):o.wp P a w K Q:=by
 unfold Oper.wp at *;generalize (execOp a.eval o).run P w=r at *;cases r with
 | ok n w' =>
  cases n<;>simp only[Oper.upon]at h⊢ <;>
   first
    | exact h
    | exact Zkf h (fun e w'' he=>by
     cases e with
     | returned v=>exact he
     | panicked c=>exact he
     | outgrown=>obtain⟨a,w,hq⟩:=he;exact⟨a,w,hq⟩)
    | exact Rows.mono h (fun _ _ he=>he)
 | halt x w'=>cases x<;>simp only[Oper.upon]at h⊢<;>exact h
theorem I8{z i:Nat}{a:Act}{w:World}{K:Act→World→Prop}(h:wpOp P ops (Pg P ops Q z) i K a w):wpOp P ops Q i K a w:=by
 unfold wpOp at *;split
 ·simpa[*]using h
 rename_i o ho;simp only[ho]at h;split
 ·rename_i hw;simp only[hw,Zi7]at h;rcases h with h | ⟨h1,a',w',h2⟩
  ·exact .inl (Zt3 h)
  exact .inr ⟨h1,a',w',h2⟩
 rename_i hw;simp only[hw]at h;exact h
theorem mem_ready{listed:Array Bool}{i:Nat}:i∈Region.ready md ops listed↔i<ops.size∧listed.getD i true=false∧∃ o,ops[i]?=some o∧∀ e∈o.after,Region.binds md e=true→listed.getD e.on false=true:=by
 unfold Region.ready;simp only[Zic,Zkh,Zlp,Zkz];constructor
 ·rintro⟨h1,h2,h3⟩;refine⟨h1,h2,ops[i],Zm9 h1,?_⟩;rw[Zm9 h1]at h3;simp only[Zk3,Zk8,Zkr,Zk4,Zkz]at h3;intro e he hb;rcases h3 e he with h|h
  ·rw[hb]at h;simp at h
  exact h
 rintro⟨h1,h2,o,ho,h3⟩;refine⟨h1,h2,?_⟩;rw[ho];simp only[Zk3,Zk8,Zkr,Zk4,Zkz];intro e he;cases hb:Region.binds md e with
 | false=>exact .inl rfl
 | true=>exact .inr (h3 e he hb)
theorem Qa{listed:Array Bool}{i j:Nat}{d:Bool}:(listed.setIfInBounds i true).getD j d=if i=j∧j<listed.size then true else listed.getD j d:=by
 simp only[Zlz,Zj8];by_cases h:i=j
 ·subst h;by_cases h2:i<listed.size<;>simp[h2]
 simp[h]
theorem Pf{z:Nat}{o:Oper}{a:Act}{w:World}(ho:ops[z]?=some o)(hw:Region.wanted o (yielded ops a.tmps)=true)(h:o.wp P a w (fun a' w'=>Q .normal a' w') Q):Pg P ops Q z .normal a w:=by
 show wpOp P ops Q z (fun a' w'=>Q .normal a' w') a w;unfold wpOp;rw[ho];simp only[hw,Zi7];exact .inl h
end
open Go.Maps (Tidy IsMap)
abbrev Kp:=ByteArray×Rc
def kb(k:ByteArray):List UInt8:=k.data.toList
theorem Ns{a b:ByteArray}(h:kb a=kb b):a=b:=ByteArray.ext (Array.ext' h)
theorem Zqf{a b:ByteArray}(h:a≠b):kb a<kb b∨kb b<kb a:=by
 rcases List.le_total (kb a) (kb b)with h1|h1
 ·exact .inl (Gd h1 fun e=>h (Ns e))
 exact .inr (Gd h1 fun e=>h (Ns e).symm)
def Wq:List Kp→ByteArray→Rc
 | [],_=>default
 | p::l,k=>if p.1=k then p.2 else Wq l k
def Wc(k:ByteArray)(r:Rc):Bool→List Kp→List Kp
 | true,[]=>[]
 | false,[]=>[(k,r)]
 | d,p::l=>if p.1=k then Wc k r d l else if d=false∧kb k<kb p.1 then(k,r)::p::Wc k r true l else p::Wc k r d l
def Jn(l:List Kp)(k:ByteArray)(r:Rc):List Kp:=Wc k r (r.st==0) l
def Zz5(l:List Kp):Prop:=l.Pairwise (fun a b=>kb a.1<kb b.1)
theorem Vm{k:ByteArray}{r:Rc}{p:Kp}:∀ {l:List Kp} {d:Bool},p∈Wc k r d l↔(p∈l∧p.1≠k)∨(d=false∧p=(k,r))
 | [],true=>by simp[Wc]
 | [],false=>by simp[Wc]
 | q::l,d=>by
  rw[Wc];split
  ·rename_i hq;rw[Vm];constructor
   ·rintro(⟨h1,h2⟩|h)
    ·exact .inl ⟨Zjq _ h1,h2⟩
    exact .inr h
   rintro(⟨h1,h2⟩|h)
   ·rcases Zg.1 h1 with h1|h1
    ·subst h1;exact absurd hq h2
    exact .inl ⟨h1,h2⟩
   exact .inr h
  rename_i hq;split
  ·rename_i hd;simp only[Zg,Vm (d:=true),Bool.true_eq_false,false_and,Zl8];constructor
   ·rintro(h|h | ⟨h1,h2⟩)
    ·exact .inr ⟨hd.1,h⟩
    ·subst h;exact .inl ⟨.inl rfl,hq⟩
    exact .inl ⟨.inr h1,h2⟩
   rintro(⟨h1|h1,h2⟩ | ⟨_,h⟩)
   ·exact .inr (.inl h1)
   ·exact .inr (.inr ⟨h1,h2⟩)
   exact .inl h
  simp only[Zg,Vm (d:=d)];constructor
  ·rintro(h | ⟨h1,h2⟩|h)
   ·subst h;exact .inl ⟨.inl rfl,hq⟩
   ·exact .inl ⟨.inr h1,h2⟩
   exact .inr h
  rintro(⟨h1|h1,h2⟩|h)
  ·exact .inl h1
  ·exact .inr (.inl ⟨h1,h2⟩)
  exact .inr (.inr h)
theorem J4{k:ByteArray}{r:Rc}:∀ {l:List Kp} {d:Bool},Zz5 l→Zz5 (Wc k r d l)
 | [],true,_=>by simp[Wc,Zz5]
 | [],false,_=>by simp[Wc,Zz5]
 | q::l,d,h=>by
  obtain⟨h1,h2⟩:=Zld.1 h;rw[Wc];split
  ·exact J4 h2
  rename_i hq;split
  ·rename_i hd;refine Zld.2 ⟨fun p hp=>?_,Zld.2 ⟨fun p hp=>?_,J4 h2⟩⟩
   ·rcases Zg.1 hp with hp|hp
    ·subst hp;exact hd.2
    rcases Vm.1 hp with⟨hp,_⟩ | ⟨hf,_⟩
    ·exact Zik hd.2 (h1 p hp)
    simp at hf
   rcases Vm.1 hp with⟨hp,_⟩ | ⟨hf,_⟩
   ·exact h1 p hp
   simp at hf
  rename_i hd;refine Zld.2 ⟨fun p hp=>?_,J4 h2⟩;rcases Vm.1 hp with⟨hp,_⟩ | ⟨hf,hp⟩
  ·exact h1 p hp
  subst hp;rcases Zqf hq with hl|hl
  ·exact hl
  exact absurd ⟨hf,hl⟩ hd
theorem V7{k:ByteArray}{r:Rc}:∀ {l:List Kp} {d:Bool},Wq (Wc k r d l) k=if d then default else r
 | [],true=>by simp[Wc,Wq]
 | [],false=>by simp[Wc,Wq]
 | q::l,d=>by
  rw[Wc];split
  ·exact V7
  rename_i hq;split
  ·rename_i hd;simp[Wq,hd.1]
  rw[Wq,Zm2 hq];exact V7
theorem Vn{k k':ByteArray}{r:Rc}(hne:k'≠k):∀ {l:List Kp} {d:Bool},Wq (Wc k r d l) k'=Wq l k'
 | [],true=>by simp[Wc,Wq]
 | [],false=>by simp[Wc,Wq,Ne.symm hne]
 | q::l,d=>by
  rw[Wc];split
  ·rename_i hq;rw[Vn hne,Wq,Zm2 (by rw[hq];exact fun e=>hne e.symm)]
  rename_i hq;split
  ·rw[Wq,Zm2 (fun e=>hne e.symm),Wq,Wq];split
   ·rfl
   exact Vn hne
  rw[Wq,Wq];split
  ·rfl
  exact Vn hne
theorem Bg{k:ByteArray}{r:Rc}:∀ {l:List Kp} {d:Bool},Zz5 l→(Wc k r d l).length+(if ∃ p∈l,p.1=k then 1 else 0)=l.length+(if d then 0 else 1)
 | [],true,_=>by simp[Wc]
 | [],false,_=>by simp[Wc]
 | q::l,d,h=>by
  obtain⟨h1,h2⟩:=Zld.1 h;have ih:=fun d=>Bg (k:=k) (r:=r) (d:=d) h2
  rw[Wc];split
  ·rename_i hq;have hno:¬ ∃ p∈l,p.1=k:=by
    rintro⟨p,hp,e⟩;have:=h1 p hp;rw[e,hq]at this;exact Zk0 _ this
   have:=ih d;rw[Zm2 hno]at this;rw[Zm4 ⟨q,by simp,hq⟩];simp only[Zl];omega
  rename_i hq;have hiff:(∃ p∈q::l,p.1=k)↔∃ p∈l,p.1=k:=by simp[hq]
  split
  ·rename_i hd;have:=ih true;simp only[hiff,Zl,hd.1]at *;simp at this⊢;omega
  have:=ih d;simp only[hiff,Zl]at *;omega
def rcD(r:Rc):DataW Unit:=.agg [.lit (.int .i64 r.st),.lit (.int .i64 r.ow),.lit (.string r.nm.data.toList),.lit (.int .i64 r.dl)]
theorem Zo3{a b:Rc}(h:rcD a=rcD b):a=b:=by
 obtain⟨a1,a2,a3,a4⟩:=a;obtain⟨b1,b2,b3,b4⟩:=b;simp only[rcD,DataW.agg.injEq,Zib,DataW.lit.injEq,Lit.int.injEq,Lit.string.injEq,Zls,Zlc]at h;obtain⟨h1,h2,h3,h4⟩:=h;have:=Ns h3;subst h1 h2 this h4;rfl
theorem Te(k:ByteArray):WideAt.IsKeyLit (.string (kb k)):=by simp[WideAt.IsKeyLit]
structure Mw(D:DataW Unit)(l:List Kp):Prop where
 tidy:Tidy D
 asc:Zz5 l
 get:∀ k,D.atKey (.string (kb k)) (rcD default)=rcD (Wq l k)
 has:∀ k,Maps.has D (.string (kb k))=true↔∃ p∈l,p.1=k
 size:Maps.size D=l.length
theorem Mw.empty:Mw (.map []) []:=⟨Zia,List.Pairwise.nil,fun _=>rfl,fun k=>by simp[Maps.has],rfl⟩
theorem Zzw{k k':ByteArray}(h:k'≠k):(Lit.string (kb k'))≠.string (kb k):=fun e=>by
 simp only[Lit.string.injEq]at e;exact h (Ns e)
theorem Mw.put{D:DataW Unit}{l:List Kp}(h:Mw D l)(k:ByteArray)(r:Rc)(hr:r.st≠0):Mw (D.put (.string (kb k)) (rcD r)) (Jn l k r):=by
 have hd:(r.st==0)=false:=by simpa using hr
 unfold Jn;rw[hd];have hm:=h.tidy.isMap;refine⟨h.tidy.put (Te k) _,J4 h.asc,fun k'=>?_,fun k'=>?_,?_⟩
 ·by_cases hk:k'=k
  ·subst hk;rw[Maps.atKey_put_same hm (Te k'),V7];simp
  rw[Maps.atKey_put_other (Zzw hk),h.get,Vn hk]
 ·by_cases hk:k'=k
  ·subst hk;rw[Maps.has_put_same hm (Te k')];simp only[true_iff];exact⟨(k',r),Vm.2 (.inr ⟨rfl,rfl⟩),rfl⟩
  rw[Ziv (Zzw hk),h.has];constructor
  ·rintro⟨p,hp,e⟩;exact⟨p,Vm.2 (.inl ⟨hp,by rw[e];exact hk⟩),e⟩
  rintro⟨p,hp,e⟩;rcases Vm.1 hp with⟨hp,_⟩ | ⟨_,hp⟩
  ·exact⟨p,hp,e⟩
  subst hp;exact absurd e.symm hk
 rw[Maps.size_put h.tidy,h.size];have:=Bg (k:=k) (r:=r) (d:=false) h.asc;have hh:=h.has k;cases hb:Maps.has D (.string (kb k))with
 | true=>rw[Zm4 (hh.1 hb)]at this;simp at this⊢;omega
 | false=>rw[Zm2 (fun e=>by rw[hh.2 e]at hb;simp at hb)]at this;simp at this⊢;omega
theorem Mw.del{D:DataW Unit}{l:List Kp}(h:Mw D l)(k:ByteArray)(r:Rc)(hr:r.st=0):Mw (D.del (.string (kb k))) (Jn l k r):=by
 have hd:(r.st==0)=true:=by simpa using hr
 unfold Jn;rw[hd];refine⟨h.tidy.del _,J4 h.asc,fun k'=>?_,fun k'=>?_,?_⟩
 ·by_cases hk:k'=k
  ·subst hk;rw[Maps.atKey_del_same,V7];simp
  rw[Maps.atKey_del_other (Zzw hk),h.get,Vn hk]
 ·by_cases hk:k'=k
  ·subst hk;rw[Maps.has_del_same];simp only[Bool.false_eq_true,false_iff];rintro⟨p,hp,e⟩;rcases Vm.1 hp with⟨_,hp⟩ | ⟨hf,_⟩
   ·exact hp e
   simp at hf
  rw[Maps.has_del_other (Zzw hk),h.has];constructor
  ·rintro⟨p,hp,e⟩;exact⟨p,Vm.2 (.inl ⟨hp,by rw[e];exact hk⟩),e⟩
  rintro⟨p,hp,e⟩;rcases Vm.1 hp with⟨hp,_⟩ | ⟨_,hp⟩
  ·exact⟨p,hp,e⟩
  subst hp;exact absurd e.symm hk
 have hs:=Maps.size_del (k:=.string (kb k)) h.tidy;have:=Bg (k:=k) (r:=r) (d:=true) h.asc;have hh:=h.has k;rw[h.size]at hs;cases hb:Maps.has D (.string (kb k))with
 | true=>rw[Zm4 (hh.1 hb)]at this;rw[hb]at hs;simp at this hs⊢;omega
 | false=>rw[Zm2 (fun e=>by rw[hh.2 e]at hb;simp at hb)]at this;rw[hb]at hs;simp at this hs⊢;omega
theorem Ex{a b:Bool}(h:a=b):Ending.returned (.bool a)=.returned (.bool b):=by rw[h]
theorem Bj:(Tryz.prog.info? 9).map (fun i=>(i.zero,i.size,i.bytes))=some (some (.string ⟨#[]⟩),1,16):=by kernel_rfl
theorem Zqo:Tryz.prog.underlying 24=some (.slice 9):=by kernel_rfl
theorem Yg{p:Prop}[Decidable p](h:¬ p:=by omega):decide p=false:=decide_eq_false h
theorem Yf{p:Prop}[Decidable p](h:p:=by omega):decide p=true:=decide_eq_true h
theorem Ye(a:Option Addr)(b c:Nat)(a2:Option Addr)(b2 c2:Nat):(Value.slice a b c=Value.slice a2 b2 c2)=(a=a2∧b=b2∧c=c2):=Value.slice.injEq a b c a2 b2 c2
theorem Yd{A:Type _}(a b:A):(some a=some b)=(a=b):=Option.some.injEq a b
theorem Yc:(Value.tuple #[]:Value)=undef:=rfl
theorem Yb:(undef:Value)=.tuple #[]:=rfl
theorem xE{w w':World}(h:Ext w w':=by repeat'(first|exact Ext.refl _|assumption|apply Ext.alloc|apply Ext.drewN|apply Ext.drew|(refine Ext.trans ?_ (by assumption)))):Ext w w':=h
end
def Yl:=@Ext.refl
def Yk:=@Ext.alloc
def Yj:=@Ext.drewN
def Yi:=@Ext.drew
def Yh:=@Ext.trans
end Go.Proofs.YtnbclgbicnpmnaaGreat
