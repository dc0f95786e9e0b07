/- Lemmas of this claim: Ground. Conditions: as named. -/
import Derived.BigQuiet
import Derived.Deep.DeepCutAuto
import Derived.Deep.QuietTactic
import Derived.Deep.RegionHeld3
import Derived.Laws.IdiomStrings
import Derived.Lib.Hide
import Derived.Maps.AppendAt
import Derived.Maps.OwnSet
import Derived.OwnWalk
import Derived.RegionTactic
import Derived.Sort.Grow
import Derived.Test.YtnbclgbicnpmnaaGreatProg
import Derived.WalkKit
import Derived.WalkLawsBesides
import Derived.WalkSpells
namespace Go.Proofs.YtnbclgbicnpmnaaGreat
open Go.RowKit Go.Sort
set_option maxHeartbeats 0
set_option maxRecDepth 100000
set_option linter.all false
def Zz:=@List.getElem?_eq_getElem
def Zy:=@List.mem_of_getElem?
def Zx:=@List.getElem?_cons_zero
def Zw:=@List.getElem?_cons_succ
def Zv:=@List.setIfInBounds_toArray
def Zu:=@List.set_cons_zero
def Zt:=@List.set_cons_succ
def Zs:=@List.length_append
def Zr:=@List.getElem?_eq_some_iff
def Zq:=@List.length_map
def Zp:=@List.length_take
def Zo:=@List.nil_append
def Zn:=@List.getElem?_map
def Zm:=@List.take_of_length_le
def Zl:=@List.length_cons
def Zk:=@List.length_nil
def Zj:=@List.mem_append
def Zi:=@List.mem_singleton
def Zh:=@List.not_mem_nil
def Zg:=@List.mem_cons
def Zf:=@List.length_set
def Ze:=@List.getElem?_append_left
def Zd:=@List.getElem?_append_right
def Zc:=@List.getElem?_set_self
def Zb:=@List.getElem?_set_ne
def Za:=@List.take_add_one
def Z0:=@List.length_replicate
def Z1:=@List.filterMap_cons
def Z2:=@List.filterMap_nil
def Z3:=@List.getElem?_toArray
def Z4:=@List.drop_succ_cons
def Z5:=@List.drop_zero
def Z6:=@List.take_succ_cons
def Z7:=@List.take_zero
def Z8:=@List.length_drop
def Z9:=@List.map_append
def Yz:=@List.getElem?_drop
def Yy:=@List.getElem?_take
def Yx:=@List.getElem?_set
def Yw:=@Go.wpQuiet_step
def Yv:=@Go.wpQuiet_nil
def Yu:=@Go.bodyPost_ret
def Yt:=@AllReadyH.cons
def Ys:=@AllReadyH.nil
def Yr:=@IntWalk.i64_in
def Yq:=@Classical.choose_spec
def Yp:=@Nat.le_refl
def Yo:=@_root_.ByteArray.size_append
def Zlr:=@Nat.lt_of_lt_of_le
def Zlq:=@if_neg
def Zlp:=@Go.wpAnyH_ready
def Zlo:=@Nat.le_trans
def Zln:=@Array.getElem?_eq_some_iff
def Zlm:=@if_pos
def Zll:=@Go.info_parts
def Zlk:=@Array.getElem?_eq_getElem
def Zlj:=@Option.some.inj
def Zli:=@Go.wp_region_held_drew
def Zlh:=@Go.Addr.mk.injEq
def Zlg:=@Array.getD_eq_getD_getElem?
def Zlf:=@Nat.zero_le
def Zle:=@Nat.zero_add
def Zld:=@List.mem_map
def Zlc:=@true_and
def Zlb:=@Go.wpAnyH_done
def Zla:=@Nat.mul_le_mul_right
def Zl0:=@Option.map_eq_some_iff
def Zl1:=@decide_eq_false_iff_not
def Zl2:=@Go.heap_alloc_new
def Zl3:=@Go.World.cell?_setCell_other
def Zl4:=@List.nodup_cons
def Zl5:=@decide_eq_true_eq
def Zl6:=@List.eq_nil_of_length_eq_zero
def Zl7:=@Bool.and_eq_true
def Zl8:=@Go.ByteArray.toList_eq
def Zl9:=@List.map_cons
def Zkz:=@Go.World.frozen?_setCell
def Zky:=@and_true
def Zkx:=@Go.Lib.hid
def Zkw:=@Go.Result.andThen_ok
def Zkv:=@Nat.eq_zero_or_pos
def Zku:=@List.map_nil
def Zkt:=@Nat.add_zero
def Zks:=@List.getD_eq_getElem?_getD
def Zkr:=@List.any_eq_true
def Zkq:=@List.mem_or_eq_of_mem_set
def Zkp:=@ByteArray.size_extract
def Zko:=@Bool.eq_false_or_eq_true
def Zkn:=@Go.World.cell?_setCell_same
def Zkm:=@Bool.not_eq_true'
def Zkl:=@or_false
def Zkk:=@List.drop_of_length_le
def Zkj:=@Bool.eq_iff_iff
def Zki:=@Nat.add_assoc
def Zkh:=@Go.wpAnyH_take
def Zkg:=@Go.World.ownsRow_nil
def Zkf:=@List.mem_range
def Zke:=@List.pairwise_cons
def Zkd:=@Nat.add_sub_cancel
def Zkc:=@Int.le_refl
def Zkb:=@Go.World.cell?_of_block
def Zka:=@Go.IntKind.wrap_i64
def Zk0:=@Array.all_eq_true_iff_forall_mem
def Zk1:=@Go.Sem.run_bind
def Zk2:=@Go.Sem.run_pure
def Zk3:=@List.eq_nil_iff_forall_not_mem
def Zk4:=@Go.IntWalk.u8_in
def Zk5:=@Go.Sort.permIn_trans
def Zk6:=@Go.Calls.mono
def Zk7:=@Int.toNat_of_nonneg
def Zk8:=@Nat.add_mul
def Zk9:=@Array.getElem?_modify
def Zjz:=@Nat.lt_or_ge
def Zjy:=@List.map_map
def Zjx:=@Nat.lt_or_eq_of_le
def Zjw:=@List.drop_eq_getElem_cons
def Zjv:=@Classical.byContradiction
def Zju:=@List.pairwise_iff_getElem
def Zjt:=@Nat.one_mul
def Zjs:=@List.getElem?_of_mem
def Zjr:=@List.mem_of_mem_take
def Zjq:=@List.mem_of_mem_drop
def Zjp:=@Option.map_some
def Zjo:=@Bool.or_eq_true
def Zjn:=@List.foldl_append
def Zjm:=@Nat.min_eq_left
def Zjl:=@of_decide_eq_true
def Zjk:=@Function.comp_def
def Zjj:=@Go.Sort.permIn_refl
def Zji:=@Nat.le_succ
def Zjh:=@Option.getD_some
def Zjg:=@Nat.min_eq_right
def Zjf:=@Go.wpList_store_mid
def Zje:=@List.mem_cons_self
def Zjd:=@List.filter_append
def Zjc:=@List.take_append_drop
def Zjb:=@List.take_left'
def Zja:=@List.take_sublist_take_left
def Zj0:=@Nat.lt_succ_iff
def Zj1:=@List.length_singleton
def Zj2:=@Nat.lt_trichotomy
def Zj3:=@List.flatMap_cons
def Zj4:=@List.mem_cons_of_mem
def Zj5:=@List.mem_iff_getElem
def Zj6:=@List.getLast?_eq_getElem?
def Zj7:=@List.length_pos_iff
def Zj8:=@Option.isSome_iff_exists
def Zj9:=@Go.RowKit.Below.heap_setCell
def Ziz:=@List.set_eq_take_append_cons_drop
def Ziy:=@List.range_succ
def Zix:=@Option.toList_some
def Ziw:=@List.append_nil
def Ziv:=@Array.getElem?_eq_none
def Ziu:=@List.Sublist.refl
def Zit:=@List.take_sublist
def Zis:=@Go.Maps.keyOf_int_mk
def Zir:=@List.lt_irrefl
def Ziq:=@Nat.ne_of_lt
def Zip:=@Go.wpList_plain
def Zio:=@getElem!_pos
def Zin:=@List.contains_iff_mem
def Zim:=@Go.RowKit.Below.heap_alloc
def Zil:=@List.countP_cons
def Zik:=@List.all_eq_true
def Zij:=@Array.getElem?_setIfInBounds
def Zii:=@List.set_append
def Zih:=@Array.length_toList
def Zig:=@Nat.div_le_self
def Zif:=@Go.World.rangeAt_setCells_same
def Zie:=@Go.Maps.has_put_other
def Zid:=@Bool.false_eq_true
def Zic:=@Go.World.ownsMap_made
def Zib:=@List.countP_append
def Zia:=@Array.any_eq_true'
def Zi0:=@Nat.mul_comm
def Zi1:=@of_decide_eq_false
def Zi2:=@List.getLastD_eq_getLast?
def Zi3:=@List.ext_getElem?
def Zi4:=@List.length_range
def Zi5:=@List.getElem?_take_of_lt
def Zi6:=@Int.toNat_natCast
def Zi7:=@List.eq_of_mem_replicate
def Zi8:=@List.sublist_append_left
def Zi9:=@Nat.mul_one
def Zhz:=@Nat.add_sub_cancel_left
def Zhy:=@Go.Sort.permIn_mono
def Zhx:=@List.getElem_mem
def Zhw:=@Bool.not_eq_true
def Zhv:=@List.mem_filter
def Zhu:=@List.cons.injEq
def Zht:=@Go.Maps.tidy_empty
def Zhs:=@Nat.zero_mul
def Zhr:=@List.any_append
def Zhq:=@Go.wpList_load_mid
def Zhp:=@List.map_set
def Zho:=@Go.wpOp_mono
def Zhn:=@List.set_set
def Zhm:=@beq_iff_eq
def Zhl:=@Go.Sort.permIn_all
def Zhk:=@if_false
def Zhj:=@Nat.mul_le_mul
def Zhi:=@Int.mul_le_mul
def Zhh:=@if_true
def Zhg:=@Go.cell_of_row
def Zhf:=@Go.wp_load_mid
def Zhe:=@List.lt_trans
def Zhd:=@Prod.mk.injEq
def Zhc:=@Bool.false_or
def Zhb:=@dif_pos
def Zha:=@Nat.sub_le
section
def Yb(p:Prop):Prop:=p
theorem Yb.o{p:Prop}(h:Yb p):p:=h
theorem Ya{p:Prop}(h:p):Yb p:=h
theorem gnX{A:Sort _}(x:A):∃ y,x=y:=⟨x,rfl⟩
theorem geX{A:Type _}{l:List A}{i:Nat}(h:i<l.length):∃ s,l[i]?=some s:=⟨l[i],Zz h⟩
theorem LTl(i n:Nat)(h:i<n:=by omega):decide ((i:Int)<(n:Int))=true∧(0:Int)≤i∧(i:Int)<n:=⟨by simpa using h,by omega,by omega⟩
theorem LTd(i n:Nat)(h:i<n:=by omega):decide ((i:Int)<(n:Int))=true:=by simpa using h
theorem GEl(i n:Nat)(h:¬ i<n:=by omega):decide ((i:Int)<(n:Int))=false:=by simpa using h
def later(w:World)(d:Nat)(os:Array Obj):World:={heap:=w.heap++os,tape:=w.tape,drawn:=d,os:=w.os,output:=w.output}
theorem Lw(w:World)(d d':Nat)(os os':Array Obj):later (later w d os) d' os'=later w d' (os++os'):=by simp[later,Array.append_assoc]
theorem Kt(w:World)(d:Nat):later w d #[]={w with drawn:=d}:=by simp[later]
theorem Zx1(w:World)(d:Nat)(os:Array Obj):(later w d os).heap.size=w.heap.size+os.size:=by simp[later]
theorem Lx(w:World)(d:Nat)(os:Array Obj){k:Nat}(h:k<w.heap.size):(later w d os).heap[k]?=w.heap[k]?:=by simp[later,Array.getElem?_append,h]
def Ext(w w':World):Prop:=∃ (d:Nat) (os:Array Obj),w'=later w d os
theorem Ext.refl(w:World):Ext w w:=⟨w.drawn,#[],by rw[Kt]⟩
theorem Ext.trans{a b c:World}(h:Ext a b)(k:Ext b c):Ext a c:=by
 obtain⟨n,os,rfl⟩:=h;obtain⟨m,os',rfl⟩:=k;exact⟨m,os++os',Lw _ _ _ _ _⟩
theorem Ext.drew{a w:World}(h:Ext a w):Ext a w.drew:=h.trans ⟨w.drawn+1,#[],by rw[Kt];rfl⟩
theorem Ext.drewN{a w:World}(h:Ext a w)(n:Nat):Ext a (w.drewN n):=h.trans ⟨w.drawn+n,#[],by rw[Kt];rfl⟩
theorem Ext.alloc{a w:World}(h:Ext a w)(o:Obj):Ext a (w.alloc o):=h.trans ⟨w.drawn,#[o],by unfold World.alloc later;rw[Array.append_singleton]⟩
theorem Ext.size{a w:World}(h:Ext a w):a.heap.size≤w.heap.size:=by
 obtain⟨n,os,rfl⟩:=h;rw[Zx1];omega
theorem Ext.block{a w:World}(h:Ext a w){k:Nat}(hk:k<a.heap.size):w.heap[k]?=a.heap[k]?:=by
 obtain⟨n,os,rfl⟩:=h;exact Lx _ _ _ hk
theorem Ext.below{a w:World}(h:Ext a w):Below a.heap.size a w:=by
 have hs:=h.size;have hb:∀ k,k<a.heap.size→w.heap[k]?=a.heap[k]?:=fun k hk=>h.block hk
 obtain⟨n,os,rfl⟩:=h;exact⟨rfl,rfl,rfl,hs,hb⟩
theorem Ext.cell{a w:World}(h:Ext a w){p:Addr}(hp:p.block<a.heap.size):w.cell? p=a.cell? p:=h.below.cell hp
theorem Ext.frozen{a w:World}(h:Ext a w){p:Addr}(hp:p.block<a.heap.size):w.frozen? p=a.frozen? p:=h.below.frozen hp
structure Chg(S:Nat→Prop)(w w':World):Prop where
 os:w'.os=w.os
 tape:w'.tape=w.tape
 output:w'.output=w.output
 size:w.heap.size≤w'.heap.size
 block:∀ k,k<w.heap.size→¬ S k→w'.heap[k]?=w.heap[k]?
theorem Chg.refl(S:Nat→Prop)(w:World):Chg S w w:=⟨rfl,rfl,rfl,Yp _,fun _ _ _=>rfl⟩
theorem Chg.trans{S:Nat→Prop}{a b c:World}(h:Chg S a b)(k:Chg S b c):Chg S a c :=
 ⟨k.os.trans h.os,k.tape.trans h.tape,k.output.trans h.output,Zlo h.size k.size,fun i hi hS=>(k.block i (Zlr hi h.size) hS).trans (h.block i hi hS)⟩
theorem Chg.mono{S T:Nat→Prop}{a b:World}(h:Chg S a b)(hST:∀ k,k<a.heap.size→S k→T k):Chg T a b :=
 ⟨h.os,h.tape,h.output,h.size,fun i hi hT=>h.block i hi fun hS=>hT (hST i hi hS)⟩
theorem Chg.drew{S:Nat→Prop}{a w:World}(h:Chg S a w):Chg S a w.drew:=h.trans ⟨rfl,rfl,rfl,Yp _,fun _ _ _=>rfl⟩
theorem Chg.drewN{S:Nat→Prop}{a w:World}(h:Chg S a w)(n:Nat):Chg S a (w.drewN n):=h.trans ⟨rfl,rfl,rfl,Yp _,fun _ _ _=>rfl⟩
theorem Chg.alloc{S:Nat→Prop}{a w:World}(h:Chg S a w)(o:Obj):Chg S a (w.alloc o) :=
 h.trans ⟨rfl,rfl,rfl,by simp,fun k hk _=>Zim w o k hk⟩
theorem Chg.setCell{S:Nat→Prop}{a w:World}(h:Chg S a w){p:Addr}(hp:S p.block∨a.heap.size≤p.block)(u:Value):Chg S a (w.setCell p u):=by
 refine⟨h.os,h.tape,h.output,by simpa[World.setCell]using h.size,fun k hk hS=>?_⟩;rw[Zj9 w p u k (by rintro rfl;rcases hp with hp|hp;exact hS hp;omega)];exact h.block k hk hS
theorem Chg.grown{S:Nat→Prop}{a w w':World}{row:Option Nat}(h:Chg S a w)(g:w.grownBy w' row)(hr:∀ k,row=some k→S k∨a.heap.size≤k):Chg S a w':=by
 refine⟨g.os.trans h.os,g.tape.trans h.tape,g.output.trans h.output,Zlo h.size g.size,fun k hk hS=>?_⟩;rw[g.block k (Zlr hk h.size) (fun e=>by rcases hr k e.symm with h1|h1;exact hS h1;omega)];exact h.block k hk hS
theorem Chg.cell{S:Nat→Prop}{a w:World}(h:Chg S a w){p:Addr}(hp:p.block<a.heap.size)(hS:¬ S p.block):w.cell? p=a.cell? p:=Zkb (h.block p.block hp hS)
theorem Chg.frozen{S:Nat→Prop}{a w:World}(h:Chg S a w){p:Addr}(hp:p.block<a.heap.size)(hS:¬ S p.block):w.frozen? p=a.frozen? p:=World.frozen?_of_block (h.block p.block hp hS)
theorem Ext.chg{a w:World}(h:Ext a w)(S:Nat→Prop):Chg S a w:=by
 have hs:=h.size;have hb:∀ k,k<a.heap.size→¬ S k→w.heap[k]?=a.heap[k]?:=fun k hk _=>h.block hk
 obtain⟨n,os,rfl⟩:=h;exact⟨rfl,rfl,rfl,hs,hb⟩
theorem Ext.of_chg{a w:World}(h:Chg (fun _=>False) a w):Ext a w:=by
 refine⟨w.drawn,w.heap.extract a.heap.size,?_⟩;obtain⟨h1,h2,h3,h5,h6⟩:=h;cases w with
 | mk heap tape drawn os output =>
  simp only at h1 h2 h3 h5 h6;subst h1 h2 h3;have hh:heap=a.heap++heap.extract a.heap.size:=by
   apply Array.ext_getElem?;intro i;rw[Array.getElem?_append];by_cases hi:i<a.heap.size
   ·rw[Zlm hi];exact h6 i hi (fun h=>h)
   rw[Zlq hi,Array.getElem?_extract];split
   ·congr 1;omega
   rename_i hx;simp only[Array.getElem?_eq_none_iff];simp at hx;omega
  unfold later;simp only[World.mk.injEq];refine⟨hh,?_,?_,?_,?_⟩<;>trivial
theorem Ext.chg_new{S:Nat→Prop}{a b c:World}(h:Ext a b)(k:Chg S b c)(hS:∀ i,S i→a.heap.size≤i):Ext a c:=by
 have g:=h.chg (fun _=>False);exact Ext.of_chg ⟨k.os.trans g.os,k.tape.trans g.tape,k.output.trans g.output,Zlo g.size k.size,
  fun i hi _=>(k.block i (Zlr hi g.size) (fun hi'=>absurd (hS i hi') (by omega))).trans (h.block hi)⟩
theorem Yc{a w:World}(h:Ext a w){p:Addr}(hp:a.heap.size≤p.block)(u:Value):Ext a (w.setCell p u) :=
 Ext.of_chg ((h.chg _).setCell (.inr hp) u)
theorem Ext.grown{a w w':World}{row:Option Nat}(h:Ext a w)(g:w.grownBy w' row)(hr:∀ k,row=some k→a.heap.size≤k):Ext a w' :=
 Ext.of_chg ((h.chg _).grown g fun k hk=>.inr (hr k hk))
def I64(n:Int):Prop:=-9223372036854775808≤n∧n≤9223372036854775807
theorem i64_of_wf{n:Int}(h:(Lit.int .i64 n).wf=true):I64 n:=by
 simp[Lit.wf,IntKind.min,IntKind.max,IntKind.signed,IntKind.bits]at h;unfold I64;omega
def IsRow(k:IntKind)(w:World)(a:Option Addr)(len cap:Nat)(zs:List Int):Prop :=
 (a=none∧len=0∧cap=0∧zs=[]) ∨
 ∃ x,a=some x∧len≤cap∧cap≤maxLen∧zs.length=cap∧(∀ i,i<zs.length→w.cell? (x.add i)=some (.int k (zs.getD i 0)))∧∀ n∈zs,(Lit.int k n).wf=true
structure Wi where
 n:Nat
 os:Array Obj
instance:Inhabited Wi:=⟨⟨0,#[]⟩⟩
theorem Y0{P:Program}{id:Nat}{Q:Exit→Act→World→Prop}{a:Act}{w:World}{l:List Oper}(hm:P.follows .mixedOrders=true)(hB:Region.lexB .any l.toArray=true)
 (h:wpQuiet P l.toArray (fun w'=>∃ p:Wi,w'=later w p.n p.os) (fun a'=>∀ w',Ext w w'→Q .normal a' w') l a):(Code.region id l.toArray true).wp P Q a w :=
 wp_region_quiet (C:=fun w'=>∃ p:Wi,w'=later w p.n p.os) hm hB ⟨⟨w.drawn+1,#[]⟩,by rw[Kt]⟩ (by
  have e:(fun a'=>∀ w',Ext w w'→Q .normal a' w')=(fun a'=>∀ w',(∃ p:Wi,w'=later w p.n p.os)→Q .normal a' w'):=by
   funext a';apply propext;constructor
   ·rintro h w' ⟨⟨n,os⟩,rfl⟩;exact h _ ⟨n,os,rfl⟩
   rintro h w' ⟨n,os,rfl⟩;exact h _ ⟨⟨n,os⟩,rfl⟩
  rw[e]at h;simpa using h)
theorem Oc(w:World)(n:Nat)(os:Array Obj)(b o:Nat)(h:b<w.heap.size):(later w n os).cell? ⟨b,o,none⟩=w.cell? ⟨b,o,none⟩ :=
 Zkb (Lx w n os h)
theorem Y8{P:Program}{f:FuncId}{args:Array Value}{w:World}{n:Nat}{os:Array Obj}{v:Value}
 (h:Calls P f args (later w n os) fun e w'=>e=.returned v∧Ext (later w n os) w'):Calls P f args (later w n os) fun e w''=>e=.returned v∧∃ p:Wi,w''=later w p.n p.os :=
 h.mono fun _ _ ⟨he,q,os',hq⟩=>⟨he,⟨q,os++os'⟩,by rw[hq];exact Lw _ _ _ _ _⟩
theorem Xt{P:Program}{f:FuncId}{args:Array Value}{w:World}{n:Nat}{os:Array Obj}{v:Value}
 (h:Calls P f args (later w n os) fun e w'=>e=.returned v∧later w n os=w'):Calls P f args (later w n os) fun e w''=>e=.returned v∧∃ p:Wi,w''=later w p.n p.os :=
 h.mono fun _ _ ⟨he,hw⟩=>⟨he,⟨n,os⟩,hw.symm⟩
def Bz(n:Int):Bool:=decide (0≤n)&&decide (n≤1073741824)
theorem Jl{n:Int}(h:0≤n∧n≤1073741824):Bz n=true:=by simp[Bz,h.1,h.2]
theorem Ms{n:Int}(h:n<0∨1073741824<n):Bz n=false:=by simp[Bz];omega
theorem Et(n:Int)(w:World):Calls Tryz.prog 173 #[.int .i64 n] w fun e w'=>e=.returned (.bool (Bz n))∧w=w':=by
 unfold Bz;by_cases h:0≤n
 ·have h':decide (0≤n)=true:=by simpa using h
  go_enter Tryz.func173,Tryz.ntmps173;go_wp2;go_ret
  simp_all
 have h':decide (0≤n)=false:=by simpa using h
 go_enter Tryz.func173,Tryz.ntmps173;go_wp2;go_ret
 simp_all
theorem Ui(n:Int)(w:World):Calls Tryz.prog 153 #[.int .i64 n] w fun e w'=>e=.returned (.bool (Bz n))∧w=w':=by
 unfold Bz;by_cases h:0≤n
 ·have h':decide (0≤n)=true:=by simpa using h
  go_enter Tryz.func153,Tryz.ntmps153;go_wp2;go_ret
  simp_all
 have h':decide (0≤n)=false:=by simpa using h
 go_enter Tryz.func153,Tryz.ntmps153;go_wp2;go_ret
 simp_all
def Qi(v n:Int):Int:=(v%18446744073709551616)%n
theorem Zwx(v n:Int)(h1:1≤n)(h2:n≤9223372036854775807):wrap64 ((IntKind.u64.wrap v).tmod n)=Qi v n:=by
 have e:IntKind.u64.wrap v=v%18446744073709551616:=by simp[IntKind.wrap,IntKind.bits,IntKind.signed]
 unfold Qi wrap64;rw[e,Int.tmod_eq_emod_of_nonneg (by omega)];have:=Int.emod_lt_of_pos (v%18446744073709551616) (show 0<n by omega);have:=Int.emod_nonneg (v%18446744073709551616) (show n≠0 by omega);omega
theorem Vh(v n:Int)(h1:1≤n):0≤Qi v n∧Qi v n<n :=
 ⟨Int.emod_nonneg _ (by omega),Int.emod_lt_of_pos _ (by omega)⟩
theorem pick_any(v n:Int)(h1:1≤n)(h2:n≤9223372036854775807)(w:World) :
 Calls Tryz.prog 23 #[.int .i64 v,.int .i64 n] w fun e w'=>e=.returned (.int .i64 (Qi v n))∧w=w':=by
 have H:=Ya (Zwx v n h1 h2);go_enter Tryz.func23,Tryz.ntmps23;go_wp2;go_ret;exact⟨by show Ending.returned (.int .i64 (wrap64 ((IntKind.u64.wrap v).tmod n)))=_;rw[H.o],rfl⟩
def Oh(now n:Int):Int:=if Bz now=false then 0 else if n<0 then now else if 1073741824-now<n then 1073741824 else now+n
theorem Zrm{now n:Int}(h:Bz now=false):Oh now n=0:=by simp[Oh,h]
theorem Zz1{now n:Int}(h:Bz now=true)(hn:n<0):Oh now n=now:=by simp[Oh,h,hn]
theorem Og{now n:Int}(h:Bz now=true)(hn:0≤n)(hf:1073741824-now<n):Oh now n=1073741824:=by simp[Oh,h,hf];omega
theorem Zz2{now n:Int}(h:Bz now=true)(hn:0≤n)(hf:n≤1073741824-now):Oh now n=now+n:=by
 have h1:¬ n<0:=by omega
 have h2:¬ 1073741824-now<n:=by omega
 simp[Oh,h,h1,h2]
theorem Ts(now n:Int)(w:World):Calls Tryz.prog 116 #[.int .i64 now,.int .i64 n] w fun e w'=>e=.returned (.int .i64 (Oh now n))∧w=w':=by
 by_cases ht:0≤now∧now≤1073741824
 ·obtain⟨t0,t1⟩:=ht;have hb:=Jl ⟨t0,t1⟩;by_cases hn:n<0
  ·have H:=Ya (Zz1 hb hn);go_enter Tryz.func116,Tryz.ntmps116;go_wp2_with (go_at_call 153;refine(Ui _ _).mono ?_;rintro e w' ⟨rfl,rfl⟩);go_ret;exact⟨by rw[H.o];rfl,rfl⟩
  have hn':0≤n:=by omega
  by_cases hm:1073741824<n
  ·have H:=Ya (Og hb hn' (by omega));go_enter Tryz.func116,Tryz.ntmps116;go_wp2_with (go_at_call 153;refine(Ui _ _).mono ?_;rintro e w' ⟨rfl,rfl⟩);go_ret;exact⟨by rw[H.o];rfl,rfl⟩
  by_cases hf:1073741824-now<n
  ·have H:=Ya (Og hb hn' hf);have hlt:1073741824<now+n:=by omega
   go_enter Tryz.func116,Tryz.ntmps116;go_wp2_with (go_at_call 153;refine(Ui _ _).mono ?_;rintro e w' ⟨rfl,rfl⟩);go_ret;exact⟨by rw[H.o];rfl,rfl⟩
  have hf':n≤1073741824-now:=by omega
  have H:=Ya (Zz2 hb hn' hf');have hlt:now+n≤1073741824:=by omega
  go_enter Tryz.func116,Tryz.ntmps116;go_wp2_with (go_at_call 153;refine(Ui _ _).mono ?_;rintro e w' ⟨rfl,rfl⟩);go_ret;exact⟨by rw[H.o];rfl,rfl⟩
 have hb:=Ms (show now<0∨1073741824<now by omega);have H:=Ya (Zrm (n:=n) hb);go_enter Tryz.func116,Tryz.ntmps116;go_wp2_with (go_at_call 153;refine(Ui _ _).mono ?_;rintro e w' ⟨rfl,rfl⟩);go_ret;exact⟨by rw[H.o];rfl,rfl⟩
def dlV(now ttl:Int):Int:=if Bz now=true∧1≤ttl∧ttl≤1073741824∧ttl≤1073741824-now then now+ttl else 0
def dlE(now ttl:Int):Int:=if Bz now=true∧1≤ttl∧ttl≤1073741824 then(if ttl≤1073741824-now then 0 else 8)else 3
theorem Zmd{a b c d:Int}(h:a=b)(k:c=d):Ending.returned (.tuple #[.int .i64 a,.int .i64 c])=.returned (.tuple #[.int .i64 b,.int .i64 d]):=by rw[h,k]
theorem Dq(now ttl:Int)(w:World):Calls Tryz.prog 159 #[.int .i64 now,.int .i64 ttl] w fun e w'=>e=.returned (.tuple #[.int .i64 (dlV now ttl),.int .i64 (dlE now ttl)])∧w=w':=by
 by_cases ht:0≤now∧now≤1073741824
 ·obtain⟨t0,t1⟩:=ht;have hb:=Jl ⟨t0,t1⟩;have Hb:=Ya hb;by_cases h1:ttl<1
  ·go_enter Tryz.func159,Tryz.ntmps159;go_wp2_with (go_at_call 173;refine(Et _ _).mono ?_;rintro e w' ⟨rfl,rfl⟩);go_ret2;exact⟨Zmd (by unfold dlV;rw[Zlq (by omega)]) (by unfold dlE;rw[Zlq (by omega)]),rfl⟩
  by_cases h2:1073741824<ttl
  ·go_enter Tryz.func159,Tryz.ntmps159;go_wp2_with (go_at_call 173;refine(Et _ _).mono ?_;rintro e w' ⟨rfl,rfl⟩);go_ret2;exact⟨Zmd (by unfold dlV;rw[Zlq (by omega)]) (by unfold dlE;rw[Zlq (by omega)]),rfl⟩
  by_cases h3:1073741824-now<ttl
  ·go_enter Tryz.func159,Tryz.ntmps159;go_wp2_with (go_at_call 173;refine(Et _ _).mono ?_;rintro e w' ⟨rfl,rfl⟩);go_ret2;exact⟨Zmd (by unfold dlV;rw[Zlq (by omega)]) (by unfold dlE;rw[Zlm ⟨Hb.o,by omega,by omega⟩,Zlq (by omega)]),rfl⟩
  go_enter Tryz.func159,Tryz.ntmps159;go_wp2_with (go_at_call 173;refine(Et _ _).mono ?_;rintro e w' ⟨rfl,rfl⟩);go_ret2;exact⟨Zmd (by unfold dlV;rw[Zlm ⟨Hb.o,by omega,by omega,by omega⟩]) (by unfold dlE;rw[Zlm ⟨Hb.o,by omega,by omega⟩,Zlm (by omega)]),rfl⟩
 have hb:=Ms (show now<0∨1073741824<now by omega);have Hb:=Ya hb;go_enter Tryz.func159,Tryz.ntmps159;go_wp2_with (go_at_call 173;refine(Et _ _).mono ?_;rintro e w' ⟨rfl,rfl⟩);go_ret2;exact⟨Zmd (by unfold dlV;rw[Zlq (by rw[Hb.o];simp)]) (by unfold dlE;rw[Zlq (by rw[Hb.o];simp)]),rfl⟩
def Us(st dl now:Int):Bool:=st==2||(st==1&&decide (now<dl))
theorem Qw(st ow dl now:Int)(nm:ByteArray)(w:World) :
 Calls Tryz.prog 163 #[.agg #[.int .i64 st,.int .i64 ow,.string nm,.int .i64 dl],.int .i64 now] w fun e w'=>e=.returned (.bool (Us st dl now))∧Ext w w':=by
 unfold Us;by_cases h2:st=2
 ·subst h2;go_enter Tryz.func163,Tryz.ntmps163;go_wp2;go_ret;exact⟨by simp,(Ext.refl _).alloc _⟩
 by_cases h1:st=1
 ·subst h1;go_enter Tryz.func163,Tryz.ntmps163;go_wp2;go_ret;exact⟨by simp,(Ext.refl _).alloc _⟩
 go_enter Tryz.func163,Tryz.ntmps163;go_wp2;go_ret;exact⟨by simp[h1,h2],(Ext.refl _).alloc _⟩
theorem Tr(st ow dl now:Int)(nm:ByteArray)(w:World) :
 Calls Tryz.prog 104 #[.agg #[.int .i64 st,.int .i64 ow,.string nm,.int .i64 dl],.int .i64 now] w fun e w'=>e=.returned (.bool (Us st dl now))∧Ext w w':=by
 unfold Us;by_cases h2:st=2
 ·subst h2;go_enter Tryz.func104,Tryz.ntmps104;go_wp2;go_ret;exact⟨by simp,(Ext.refl _).alloc _⟩
 by_cases h1:st=1
 ·subst h1;go_enter Tryz.func104,Tryz.ntmps104;go_wp2;go_ret;exact⟨by simp,(Ext.refl _).alloc _⟩
 go_enter Tryz.func104,Tryz.ntmps104;go_wp2;go_ret;exact⟨by simp[h1,h2],(Ext.refl _).alloc _⟩
structure Rc where
 st:Int
 ow:Int
 nm:ByteArray
 dl:Int
instance:Inhabited Rc:=⟨⟨0,0,⟨#[]⟩,0⟩⟩
def Rc.cells(r:Rc):List Value:=[.int .i64 r.st,.int .i64 r.ow,.string r.nm,.int .i64 r.dl]
theorem Zn6:Tryz.prog.underlying 9=some .string:=by kernel_rfl
theorem Zsj:Tryz.prog.underlying 224=some (.slice 5):=by kernel_rfl
theorem Zpw:Tryz.prog.underlying 5=some (.int .u8):=by kernel_rfl
theorem Gd{a b:List UInt8}(h:a≤b)(hne:a≠b):a<b:=by
 rcases List.le_iff_lt_or_eq.1 h with h|h
 ·exact h
 exact absurd h hne
def bs(l:List UInt8):ByteArray:=⟨l.toArray⟩
theorem Zob(l:List UInt8):(bs l).size=l.length:=by simp[bs,ByteArray.size]
def zz(v:Int):Nat:=if 0≤v then(2*v).toNat else(-2*v-1).toNat
def leb(u:Nat):List UInt8 :=
 if u<128 then[UInt8.ofNat u]else UInt8.ofNat (u%128+128)::leb (u/128)
termination_by u
decreasing_by omega
theorem Zlw{n:Nat}(h:n<256):(UInt8.ofNat n).toNat=n:=by
 simp[UInt8.toNat_ofNat'];omega
def code(v:Int):List UInt8:=leb (zz v)
structure Nm where
 a:ByteArray
 u:ByteArray
 k:ByteArray
def Wx(op:Int):Bool:=op==1||op==3
def srt:List Nm→Bool
 | []=>true
 | [_]=>true
 | x::y::r=>decide (x.k.data.toList<y.k.data.toList)&&srt (y::r)
structure Head where
 cl:Int
 op:Int
 ttl:Int
 tick:Int
 n:Int
 at_:Nat
 bad:Bool
def Src(B:Nat)(w:World)(b:Nat):Prop :=
 ∃ (a:Option Addr) (len cap:Nat) (i:Nat),w.heap[b]?=some (.cells #[.slice a len cap,.int .i64 (i:Int)] 165 (0,0))∧B≤b∧len≤maxLen∧i≤len ∧
  (0<len→∃ x,a=some x∧x.block<B∧∀ j,j<len→∃ z,w.cell? (x.add j)=some (.int .i64 z)∧I64 z)
theorem add_block(a:Addr)(n:Nat):(a.add n).block=a.block:=by unfold Addr.add;split<;>rfl
theorem Src.keep{B b:Nat}{w w':World}(h:Src B w b)(hk:∀ k,k<B∨k=b→w'.heap[k]?=w.heap[k]?):Src B w' b:=by
 obtain⟨a,len,cap,i,hb,h0,hl,hi,hx⟩:=h;refine⟨a,len,cap,i,by rw[hk b (.inr rfl)];exact hb,h0,hl,hi,fun h=>?_⟩;obtain⟨x,e,hxb,hc⟩:=hx h;exact⟨x,e,hxb,fun j hj=>by
  obtain⟨z,hz,hb⟩:=hc j hj;exact⟨z,by rw[← hz];exact Zkb (hk _ (.inl (by rw[add_block];exact hxb))),hb⟩⟩
theorem Src.drew{B b:Nat}{w:World}(h:Src B w b):Src B w.drew b:=h
theorem Src.lt{B b:Nat}{w:World}(h:Src B w b):b<w.heap.size:=by
 obtain⟨a,len,cap,i,hb,_⟩:=h;exact(Zln.1 hb).1
theorem Src.ge{B b:Nat}{w:World}(h:Src B w b):B≤b:=by
 obtain⟨a,len,cap,i,hb,h,_⟩:=h;exact h
theorem Src.alloc{B b:Nat}{w:World}(h:Src B w b)(o:Obj):Src B (w.alloc o) b :=
 h.keep fun k hk=>Zim w o k (by have:=h.lt;have:=h.ge;omega)
theorem Src.setCell{B b:Nat}{w:World}(h:Src B w b){p:Addr}(h1:B≤p.block)(h2:p.block≠b)(u:Value):Src B (w.setCell p u) b :=
 h.keep fun k hk=>Zj9 w p u k (by rintro rfl;rcases hk with hk|hk;omega;exact h2 hk)
theorem Src.ext{B b:Nat}{w w':World}(h:Src B w b)(he:Ext w w'):Src B w' b :=
 h.keep fun k hk=>he.block (by have:=h.lt;have:=h.ge;omega)
theorem Pr(a:Option Addr)(n c:Nat)(w:World) :
 Calls Tryz.prog 41 #[.slice a n c] w fun e w'=>e=.returned (.pointer (some ⟨w.heap.size,0,none⟩))∧w.alloc (.cells #[.slice a n c,.int .i64 0] 165)=w':=by
 go_enter Tryz.func41,Tryz.ntmps41;go_wp2;go_ret;exact⟨rfl,rfl⟩
theorem To{w:World}{a:Addr}{v:Value}(h:w.cell? (a.add 0)=some v):a.spot=none:=by simpa[Addr.add]using World.cell?_spot h
def Zru(B b:Nat)(n:Int)(w:World)(e:Ending)(w':World):Prop:=∃ v:Nat,(v:Int)<n∧e=.returned (.int .i64 (v:Int))∧Src B w' b∧Chg (· = b) w w'∧w'.heap.size=w.heap.size
theorem Zvc(w:World)(b k k':Nat)(u:Value):Chg (· = b) w (((w.drewN k).setCell ⟨b,1,none⟩ u).drewN k') :=
 Chg.drewN (Chg.setCell (S:=(· = b)) (p:=⟨b,1,none⟩) (Chg.drewN (Chg.refl _ w) k) (.inl rfl) u) k'
theorem Zsv{B:Nat}{w:World}{b i:Nat}{a:Option Addr}{len cap:Nat}(hb:w.heap[b]?=some (.cells #[.slice a len cap,.int .i64 (i:Int)] 165 (0,0)))(h0:B≤b)(hl:len≤maxLen)(hi:i<len)
 (hx:0<len→∃ x,a=some x∧x.block<B∧∀ j,j<len→∃ z,w.cell? (x.add j)=some (.int .i64 z)∧I64 z) (k k':Nat):Src B (((w.drewN k).setCell ⟨b,1,none⟩ (.int .i64 ((i:Int)+1))).drewN k') b:=by
 refine⟨a,len,cap,i+1,?_,h0,hl,by omega,fun h=>?_⟩
 ·have hb':(w.drewN k).heap[b]?=some (.cells #[.slice a len cap,.int .i64 (i:Int)] 165 (0,0)):=hb;show((w.drewN k).heap.modify b _)[b]?=_;rw[Zk9,Zlm rfl,hb'];rfl
 obtain⟨x,hx1,hx2,hx3⟩:=hx h;refine⟨x,hx1,hx2,fun j hj=>?_⟩;obtain⟨z,hz1,hz2⟩:=hx3 j hj;refine⟨z,?_,hz2⟩;have e:((w.drewN k).setCell ⟨b,1,none⟩ (.int .i64 ((i:Int)+1))).cell? (x.add j)=(w.drewN k).cell? (x.add j):=Zkb (Zj9 _ _ _ _ (by rw[add_block];exact Ziq (Zlr hx2 h0)));exact e.trans hz1
theorem next_any(b:Nat)(n:Int)(h1:1≤n)(h2:n≤9223372036854775807)(w:World)(B:Nat)(hs:Src B w b) :
 Calls Tryz.prog 42 #[.pointer (some ⟨b,0,none⟩),.int .i64 n] w (Zru B b n w):=by
 have HS:=Ya hs;obtain⟨a,len,cap,i,hb,hB,hl,hi,hx⟩:=hs;have hc0:w.cell? ⟨b,0,none⟩=some (.slice a len cap):=by simp[World.cell?,hb]
 have hc1:w.cell? ⟨b,1,none⟩=some (.int .i64 (i:Int)):=by simp[World.cell?,hb]
 have hf1:w.frozen? ⟨b,1,none⟩=false:=by simp[World.frozen?,hb]
 by_cases hlt:i<len
 ·have HB:=Ya hb;have HX:=Ya hx;have HL:=Ya hl;have HG:=Ya hB;obtain⟨x,rfl,hxb,hxc⟩:=hx (by omega);obtain⟨z,hz,hzb⟩:=hxc i hlt;obtain⟨_,hz0,_⟩:=hxc 0 (by omega);have hspot:=To hz0;clear hz0;obtain⟨xb,off,spot⟩:=x;have hs0:spot=none:=hspot;subst hs0;have hz':w.cell? ⟨xb,off+i,none⟩=some (.int .i64 z):=by rw[← hz];congr 1;simp[Addr.add]
  have hd:decide ((len:Int)≤(i:Int))=false:=by simp;omega
  have hi0:(0:Int)≤(i:Int):=by omega
  have hi1:(i:Int)<(len:Int):=by omega
  have hne:¬ xb=b:=Ziq (Zlr hxb hB);unfold maxLen at hl;clear hb hx hxc hz hxb hspot hi hB;go_enter Tryz.func42,Tryz.ntmps42;go_wp2;go_quiet (fail);go_wp2;go_quiet ((go_at_call 23;exact Calls.quiet_of_same ((pick_any _ _ h1 h2 _).mono fun _ _ h=>⟨h.1,h.2.symm⟩)));go_wp2;go_ret;exact⟨(Qi z n).toNat,by have:=Vh z n h1;omega,by rw[Zk7 (Vh z n h1).1];rfl,Zsv HB.o HG.o HL.o hlt HX.o _ _,Zvc _ _ _ _ _,by simp[World.setCell,World.drewN]⟩
 have hd:decide ((len:Int)≤(i:Int))=true:=by simp;omega
 have hl':len≤9223372036854775807:=by unfold maxLen at hl;omega
 go_enter Tryz.func42,Tryz.ntmps42;go_wp2;go_quiet (fail);go_wp2;go_ret;exact⟨0,by omega,rfl,HS.o,(Chg.refl _ _).drewN _,rfl⟩
theorem Src.chg{B b:Nat}{w w':World}{S:Nat→Prop}(h:Src B w b)(c:Chg S w w')(hb:¬ S b)(hB:∀ k,k<B→¬ S k):Src B w' b:=by
 obtain⟨a,len,cap,i,h1,h2,h3,h4,h5⟩:=h;have hl:b<w.heap.size:=(Zln.1 h1).1;refine⟨a,len,cap,i,(c.block b hl hb).trans h1,h2,h3,h4,fun h0=>?_⟩;obtain⟨x,e,hx,hc⟩:=h5 h0;refine⟨x,e,hx,fun j hj=>?_⟩;obtain⟨z,hz,hi⟩:=hc j hj;exact⟨z,(c.cell (p:=x.add j) (by rcases Zjz (x.add j).block w.heap.size with q|q;exact q;simp[World.cell?,Ziv q]at hz) (by rw[add_block];exact hB _ hx)).trans hz,hi⟩
def Km(w:World)(a:Option Addr)(len:Nat):Prop:=len≤maxLen∧(0<len→∃ x,a=some x∧x.block<w.heap.size∧∀ j,j<len→∃ z,w.cell? (x.add j)=some (.int .i64 z)∧I64 z)
theorem Km.of_row{w:World}{a:Option Addr}{len cap:Nat}{zs:List Int}(h:IsRow .i64 w a len cap zs):Km w a len:=by
 refine⟨?_,fun hl=>?_⟩
 ·rcases h with⟨_,rfl,_⟩ | ⟨x,_,h1,h2,_⟩
  ·unfold maxLen;omega
  omega
 rcases h with⟨_,rfl,_⟩ | ⟨x,rfl,h1,h2,h3,h4,h5⟩
 ·omega
 have hc:∀ j,j<len→x.block<w.heap.size∧w.cell? (x.add j)=some (.int .i64 (zs.getD j 0)):=fun j hj=>by
  have hc:=h4 j (by omega);refine⟨?_,hc⟩;have hb:(x.add j).block<w.heap.size:=by
   rcases Zjz (x.add j).block w.heap.size with hlt|hge
   ·exact hlt
   simp[World.cell?,Ziv hge]at hc
  rwa [add_block]at hb
 refine⟨x,rfl,(hc 0 hl).1,fun j hj=>⟨zs.getD j 0,(hc j hj).2,?_⟩⟩;have hj':j<zs.length:=by omega
 rw[Zks,Zz hj',Zjh];exact i64_of_wf (h5 _ (Zhx hj'))
theorem Ug{w w1:World}{a:Option Addr}{len cap:Nat}(h:Km w a len)(x:Ext w w1):Src w.heap.size (w1.alloc (.cells #[.slice a len cap,.int .i64 0] 165)) w1.heap.size:=by
 obtain⟨h1,h2⟩:=h;refine⟨a,len,cap,0,Zl2 _ _,x.size,h1,by omega,fun hl=>?_⟩;obtain⟨y,e,hy,hc⟩:=h2 hl;refine⟨y,e,hy,fun j hj=>?_⟩;obtain⟨z,hz,hi⟩:=hc j hj;exact⟨z,((x.alloc _).cell (by rw[add_block];exact hy)).trans hz,hi⟩
theorem Jq:(Tryz.prog.info? 51).map (fun i=>(i.zero,i.size,i.bytes))=some (some (.agg #[.int .i64 0,.int .i64 0,.string ⟨#[]⟩,.int .i64 0]),4,40):=by kernel_rfl
theorem Er:Tryz.prog.underlying 25=some (.slice 51):=by kernel_rfl
theorem Ext.grownN{a w:World}(h:Ext a w):a.grownBy w none:=by
 have g:=h.chg (fun _=>False);exact⟨g.os,g.tape,g.output,g.size,fun k hk _=>h.block hk⟩
theorem Kg{w w':World}{base:Nat}{e:TypeId}{size:Nat}{v:Value}{n:Nat}{xs:List Value}(h:w.ownsRow base e size v n xs)(x:Ext w w'):w'.ownsRow base e size v n xs :=
 h.kept x.grownN (Decidable.em _)
theorem lt_of_cell{w:World}{p:Addr}{v:Value}(h:w.cell? p=some v):p.block<w.heap.size:=by
 rcases Zjz p.block w.heap.size with hlt|hge
 ·exact hlt
 simp[World.cell?,Ziv hge]at h
def Ji(rs:List Rc):List Value:=rs.flatMap Rc.cells
theorem Zux(rs:List Rc):(Ji rs).length=rs.length*4:=by
 induction rs with
 | nil=>rfl
 | cons r rs ih=>simp[Ji,Rc.cells]at ih⊢;omega
theorem Ed(rs:List Rc)(r:Rc):Ji (rs++[r])=Ji rs++r.cells:=by simp[Ji]
theorem Zra(rs:List Rc){k:Nat}(hk:k<rs.length)(j:Nat)(hj:j<4):(Ji rs)[k*4+j]?=(rs.getD k default).cells[j]?:=by
 induction rs generalizing k with
 | nil=>simp at hk
 | cons r rs ih =>
  have e:Ji (r::rs)=r.cells++Ji rs:=by simp[Ji]
  rw[e];cases k with
  | zero=>rw[Ze (by simp[Rc.cells];omega)];simp
  | succ k =>
   rw[Zd (by simp[Rc.cells];omega)];have:=ih (k:=k) (by simpa using hk);have e2:(k+1)*4+j-r.cells.length=k*4+j:=by simp[Rc.cells];omega
   rw[e2,this];simp
theorem Oi(g n:Nat):(⟨g,0,none⟩:Addr).add n=⟨g,n,none⟩:=by
 unfold Addr.add;by_cases hn:n=0<;>simp[hn]
theorem Xf{w:World}{base:Nat}{e:TypeId}{size:Nat}{v:Value}{n:Nat}{xs:List Value}(h:w.ownsRow base e size v n xs):∃ a c,v=.slice a n c:=by
 obtain⟨_,⟨rfl,rfl⟩ | ⟨g,cap,_,rfl,_⟩⟩:=h
 ·exact⟨_,_,rfl⟩
 exact⟨_,_,rfl⟩
def Rd(w:World)(S:Nat→Prop)(z:Nat)(v:Value)(n:Nat)(xs:List Value):Prop :=
 xs.length=n*z∧∃ A c,v=.slice A n c∧n≤c∧c≤maxLen∧(0<n→∃ g o,A=some ⟨g,o,none⟩∧S g∧g<w.heap.size∧∀ j u,xs[j]?=some u→w.cell? ⟨g,o+j,none⟩=some u)
section
variable {w w':World} {S T:Nat→Prop} {z n:Nat} {v:Value} {xs:List Value}
theorem Rd.nil(w:World)(S:Nat→Prop)(z:Nat):Rd w S z (.slice none 0 0) 0 []:=⟨by simp,none,0,rfl,Yp _,Zlf _,fun h=>absurd h (by omega)⟩
theorem Rd.keep(h:Rd w S z v n xs)(hs:w.heap.size≤w'.heap.size)(hk:∀ k,S k→k<w.heap.size→w'.heap[k]?=w.heap[k]?):Rd w' S z v n xs:=by
 obtain⟨h1,A,c,rfl,h2,h3,h4⟩:=h;refine⟨h1,A,c,rfl,h2,h3,fun hn=>?_⟩;obtain⟨g,o,e,hS,hg,hc⟩:=h4 hn;exact⟨g,o,e,hS,Zlr hg hs,fun j u hu=>(Zkb (a:=⟨g,o+j,none⟩) (hk g hS hg)).trans (hc j u hu)⟩
theorem Rd.chg(h:Rd w S z v n xs)(c:Chg T w w')(hd:∀ k,S k→¬ T k):Rd w' S z v n xs:=h.keep c.size fun k hS hk=>c.block k hk (hd k hS)
theorem Rd.ext(h:Rd w S z v n xs)(x:Ext w w'):Rd w' S z v n xs:=h.keep x.size fun _ _ hk=>x.block hk
theorem Rd.drew(h:Rd w S z v n xs):Rd w.drew S z v n xs:=h
theorem Rd.mono(h:Rd w S z v n xs)(hST:∀ k,S k→k<w.heap.size→T k):Rd w T z v n xs:=by
 obtain⟨h1,A,c,rfl,h2,h3,h4⟩:=h;refine⟨h1,A,c,rfl,h2,h3,fun hn=>?_⟩;obtain⟨g,o,e,hS,hg,hc⟩:=h4 hn;exact⟨g,o,e,hST g hS hg,hg,hc⟩
theorem Rd.len(h:Rd w S z v n xs):n≤maxLen:=by
 obtain⟨_,A,c,_,h2,h3,_⟩:=h;omega
theorem Rd.at_(h:Rd w S z v n xs){k:Nat}(hk:k<n):∃ g o c,v=.slice (some ⟨g,o,none⟩) n c∧n≤c∧c≤maxLen∧S g∧g<w.heap.size∧∀ j u,xs[j]?=some u→w.cell? ⟨g,o+j,none⟩=some u:=by
 obtain⟨h1,A,c,rfl,h2,h3,h4⟩:=h;obtain⟨g,o,rfl,hS,hg,hc⟩:=h4 (by omega);exact⟨g,o,c,rfl,h2,h3,hS,hg,hc⟩
theorem Rd.of_own{base:Nat}{e:TypeId}(h:w.ownsRow base e z v n xs)(hS:∀ k,v.ownBlock=some k→S k):Rd w S z v n xs:=by
 have hc:=fun g hg=>h.cells (g:=g) hg
 have hl:=h.lt;obtain⟨hlen,⟨hv,h0⟩ | ⟨g,cap,cur,hv,_,hb,hn,hm,_⟩⟩:=h
 ·subst h0 hv;have hx:xs=[]:=Zl6 (by simpa using hlen);subst hx;exact Rd.nil _ _ _
 refine⟨hlen,_,cap,hv,hn,hm,fun _=>⟨g,0,rfl,hS g (by rw[hv];rfl),(hl g (by rw[hv];rfl)).2,fun j u hu=>?_⟩⟩;have:=hc g (by rw[hv];rfl) j u hu;rw[Oi]at this;rw[Zle];exact this
end
section
variable {P:Program} (w:World)
theorem L9(base:Nat)(t ty e:TypeId)(i:TypeInfo)(size:Nat)(ht:P.underlying t=some (.slice e))(hi:P.info? e=some i)
 (v:Value) (n:Nat) (xs:List Value) (hown:w.ownsRow base e size v n xs) (c:Nat):(Builtin.append_ #[t,t] ty #[v,.slice none 0 c]).run P w=.ok v w:=by
 rcases hown.2 with⟨rfl,rfl⟩ | ⟨g,cap,cur,rfl,_,_,hnc,_⟩
 ·simp[Builtin.append_,run_underlying ht,sizeOf,typeInfo,hi,Builtin.lenOf,Builtin.firstCells]
 simp[Builtin.append_,run_underlying ht,sizeOf,typeInfo,hi,Builtin.lenOf,Builtin.firstCells,hnc,storeCells]
structure Bt(w:World)(base:Nat)(e:TypeId)(size:Nat)(v:Value)(k:Nat)(ys:List Value)(v':Value)(w':World):Prop where
 own:w'.ownsRow base e size v' k ys
 grown:w.grownBy w' v.ownBlock
 at_:v'.ownBlock=v.ownBlock∨v'.ownBlock=some w.heap.size
theorem P1(base:Nat)(t ty e:TypeId)(i:TypeInfo)(z:Value)(size bytes:Nat)(ht:P.underlying t=some (.slice e))(hi:P.info? e=some i)(hz:i.zero=some z)
 (hsize:i.size=size) (hby:i.bytes=bytes) (hzs:z.cells.size=size) (hsz:0<size)
 (v:Value) (n:Nat) (xs:List Value) (hown:w.ownsRow base e size v n xs)
 (S:Nat→Prop) (x:Value) (m:Nat) (news:List Value) (hr:Rd w S size x m news) (h1:∀ u∈news,u.oneCell'=true)
 (h63:n+m≤maxLen) (hbytes:(n+m)*bytes≤140737488355328) (hbase:base≤w.heap.size) :
 ∃ v' w',(Builtin.append_ #[t,t] ty #[v,x]).run P w=.ok v' w'∧Bt w base e size v (n+m) (xs++news) v' w':=by
 obtain⟨hlen,A,c,rfl,_,_,hcells⟩:=hr;rcases Zkv m with h0|h0
 ·subst h0;have hn:news=[]:=Zl6 (by simpa using hlen);subst hn;cases A with
  | none=>exact⟨v,w,L9 w base t ty e i size ht hi v n xs hown c,by simpa using hown,World.grownBy.refl w _,.inl rfl⟩
  | some ad =>
   obtain⟨v',w',hrun,h2,h3,_,h5⟩:=run_append_own_at (P:=P) w base t ty e i z size bytes ht hi hz hsize hby hzs hsz v n xs hown ad 0 c [] (by simp) (by simp) h1 h63 hbytes hbase;exact⟨v',w',hrun,h2,h3,h5⟩
 obtain⟨g,o,rfl,_,_,hc⟩:=hcells h0;obtain⟨v',w',hrun,h2,h3,_,h5⟩:=run_append_own_at (P:=P) w base t ty e i z size bytes ht hi hz hsize hby hzs hsz v n xs hown ⟨g,o,none⟩ m c news hlen (fun j u hu=>by
  have e:(⟨g,o,none⟩:Addr).add j=⟨g,o+j,none⟩:=by unfold Addr.add;by_cases hj:j=0<;>simp[hj]
  rw[e];exact hc j u hu) h1 h63 hbytes hbase
 exact⟨v',w',hrun,h2,h3,h5⟩
theorem J3{o:Oper}{a:Act}{K:Act→World→Prop}{Q:Exit→Act→World→Prop}(s y:Operand)(t:TypeId)
 (ho:o.op=.call {callee:=.builtin .append,args:=#[s,y],argTypes:=#[t,t]})
 (base:Nat) (e:TypeId) (i:TypeInfo) (z:Value) (size bytes:Nat) (ht:P.underlying t=some (.slice e)) (hi:P.info? e=some i) (hz:i.zero=some z)
 (hsize:i.size=size) (hby:i.bytes=bytes) (hzs:z.cells.size=size) (hsz:0<size)
 (v:Value) (n:Nat) (xs:List Value) (hs:a.eval s=v) (hown:w.ownsRow base e size v n xs)
 (S:Nat→Prop) (x:Value) (m:Nat) (news:List Value) (hx:a.eval y=x) (hr:Rd w S size x m news) (h1:∀ u∈news,u.oneCell'=true)
 (h63:n+m≤maxLen) (hbytes:(n+m)*bytes≤140737488355328) (hbase:base≤w.heap.size)
 (h:∀ v' w',Bt w base e size v (n+m) (xs++news) v' w'→K (a.put o.dst v') w'):o.wp P a w K Q:=by
 obtain⟨v',w',hrun,h2⟩:=P1 (P:=P) w base t o.type e i z size bytes ht hi hz hsize hby hzs hsz v n xs hown S x m news hr h1 h63 hbytes hbase;unfold Oper.wp execOp;simp only[ho,resolve,invoke,builtin,Zk1,Zk2,Zkw,List.map_toArray,Zl9,Zku,hs,hx,hrun];exact h v' w' h2
theorem Ve{ops:Array Oper}{rest:List Oper}{o:Oper}{a:Act}{Q:Exit→Act→World→Prop}(hgd:o.guard=none)(s y:Operand)(t:TypeId)
 (ho:o.op=.call {callee:=.builtin .append,args:=#[s,y],argTypes:=#[t,t]})
 (base:Nat) (e:TypeId) (i:TypeInfo) (z:Value) (size bytes:Nat) (ht:P.underlying t=some (.slice e)) (hi:P.info? e=some i) (hz:i.zero=some z)
 (hsize:i.size=size) (hby:i.bytes=bytes) (hzs:z.cells.size=size) (hsz:0<size)
 (v:Value) (n:Nat) (xs:List Value) (hs:a.eval s=v) (hown:w.ownsRow base e size v n xs)
 (S:Nat→Prop) (x:Value) (m:Nat) (news:List Value) (hx:a.eval y=x) (hr:Rd w S size x m news) (h1:∀ u∈news,u.oneCell'=true)
 (h63:n+m≤maxLen) (hbytes:(n+m)*bytes≤140737488355328) (hbase:base≤w.heap.size)
 (h:∀ v' w',Bt w base e size v (n+m) (xs++news) v' w'→wpList P ops Q rest (a.put o.dst v') w'):wpList P ops Q (o::rest) a w :=
 Zip hgd fun _ hK=>J3 w s y t ho base e i z size bytes ht hi hz hsize hby hzs hsz v n xs hs hown S x m news hx hr h1 h63 hbytes hbase fun v' w' h2=>hK _ _ (h v' w' h2)
theorem J8{ops:Array Oper}{o:Oper}{a:Act}{K:Act→World→Prop}{Q:Exit→Act→World→Prop}{E:Prop}(hgd:o.guard=none)(s y:Operand)(t:TypeId)
 (ho:o.op=.call {callee:=.builtin .append,args:=#[s,y],argTypes:=#[t,t]})
 (base:Nat) (e:TypeId) (i:TypeInfo) (z:Value) (size bytes:Nat) (ht:P.underlying t=some (.slice e)) (hi:P.info? e=some i) (hz:i.zero=some z)
 (hsize:i.size=size) (hby:i.bytes=bytes) (hzs:z.cells.size=size) (hsz:0<size)
 (v:Value) (n:Nat) (xs:List Value) (hs:a.eval s=v) (hown:w.ownsRow base e size v n xs)
 (S:Nat→Prop) (x:Value) (m:Nat) (news:List Value) (hx:a.eval y=x) (hr:Rd w S size x m news) (h1:∀ u∈news,u.oneCell'=true)
 (h63:n+m≤maxLen) (hbytes:(n+m)*bytes≤140737488355328) (hbase:base≤w.heap.size)
 (h:∀ v' w',Bt w base e size v (n+m) (xs++news) v' w'→K (a.put o.dst v') w') :
 if Region.wanted o (yielded ops a.tmps)=true then Oper.wp P o a w K Q else E:=by
 have hw:Region.wanted o (yielded ops a.tmps)=true:=by simp[Region.wanted,hgd]
 rw[Zlm hw];exact J3 w s y t ho base e i z size bytes ht hi hz hsize hby hzs hsz v n xs hs hown S x m news hx hr h1 h63 hbytes hbase h
end
section
variable {P:Program} {ops:Array Oper} {Q:Exit→Act→World→Prop} {md:Region.Mode} {S:World→Prop}
def Rr(P:Program)(ops:Array Oper)(Q:Exit→Act→World→Prop)(z:Nat):Exit→Act→World→Prop
 | .normal,a,w=>wpOp P ops Q z (fun a' w'=>Q .normal a' w') a w
 | e,a,w=>Q e a w
theorem Zsa{z:Nat}{o:Oper}{a:Act}{w:World}{K:Act→World→Prop}(h:o.wp P a w K (Rr P ops Q z)):o.wp P a w K Q:=by
 unfold Oper.wp at *;generalize (execOp a.eval o).run P w=r at *;cases r with
 | ok n w' =>
  cases n<;>simp only[Oper.upon]at h⊢ <;>
   first
    | exact h
    | exact Zk6 h (fun e w'' he=>by
     cases e with
     | returned v=>exact he
     | panicked c=>exact he
     | outgrown=>obtain⟨a,w,hq⟩:=he;exact⟨a,w,hq⟩)
    | exact Rows.mono h (fun _ _ he=>he)
 | halt x w'=>cases x<;>simp only[Oper.upon]at h⊢<;>exact h
theorem Zzh{z i:Nat}{a:Act}{w:World}{K:Act→World→Prop}(h:wpOp P ops (Rr P ops Q z) i K a w):wpOp P ops Q i K a w:=by
 unfold wpOp at *;split
 ·simpa[*]using h
 rename_i o ho;simp only[ho]at h;split
 ·rename_i hw;simp only[hw,Zhh]at h;rcases h with h | ⟨h1,a',w',h2⟩
  ·exact .inl (Zsa h)
  exact .inr ⟨h1,a',w',h2⟩
 rename_i hw;simp only[hw]at h;exact h
theorem mem_ready{listed:Array Bool}{i:Nat}:i∈Region.ready md ops listed↔i<ops.size∧listed.getD i true=false∧∃ o,ops[i]?=some o∧∀ e∈o.after,Region.binds md e=true→listed.getD e.on false=true:=by
 unfold Region.ready;simp only[Zhv,Zkf,Zl7,Zkm];constructor
 ·rintro⟨h1,h2,h3⟩;refine⟨h1,h2,ops[i],Zlk h1,?_⟩;rw[Zlk h1]at h3;simp only[Zjp,Zjh,Zk0,Zjo,Zkm]at h3;intro e he hb;rcases h3 e he with h|h
  ·rw[hb]at h;simp at h
  exact h
 rintro⟨h1,h2,o,ho,h3⟩;refine⟨h1,h2,?_⟩;rw[ho];simp only[Zjp,Zjh,Zk0,Zjo,Zkm];intro e he;cases hb:Region.binds md e with
 | false=>exact .inl rfl
 | true=>exact .inr (h3 e he hb)
theorem Qc{listed:Array Bool}{i j:Nat}{d:Bool}:(listed.setIfInBounds i true).getD j d=if i=j∧j<listed.size then true else listed.getD j d:=by
 simp only[Zlg,Zij];by_cases h:i=j
 ·subst h;by_cases h2:i<listed.size<;>simp[h2]
 simp[h]
theorem Rq{z:Nat}{o:Oper}{a:Act}{w:World}(ho:ops[z]?=some o)(hw:Region.wanted o (yielded ops a.tmps)=true)(h:o.wp P a w (fun a' w'=>Q .normal a' w') Q):Rr P ops Q z .normal a w:=by
 show wpOp P ops Q z (fun a' w'=>Q .normal a' w') a w;unfold wpOp;rw[ho];simp only[hw,Zhh];exact .inl h
end
open Go.Maps (Tidy IsMap)
abbrev Kp:=ByteArray×Rc
def kb(k:ByteArray):List UInt8:=k.data.toList
theorem Nd{a b:ByteArray}(h:kb a=kb b):a=b:=ByteArray.ext (Array.ext' h)
theorem Zpj{a b:ByteArray}(h:a≠b):kb a<kb b∨kb b<kb a:=by
 rcases List.le_total (kb a) (kb b)with h1|h1
 ·exact .inl (Gd h1 fun e=>h (Nd e))
 exact .inr (Gd h1 fun e=>h (Nd e).symm)
def Vx:List Kp→ByteArray→Rc
 | [],_=>default
 | p::l,k=>if p.1=k then p.2 else Vx l k
def Wc(k:ByteArray)(r:Rc):Bool→List Kp→List Kp
 | true,[]=>[]
 | false,[]=>[(k,r)]
 | d,p::l=>if p.1=k then Wc k r d l else if d=false∧kb k<kb p.1 then(k,r)::p::Wc k r true l else p::Wc k r d l
def Ko(l:List Kp)(k:ByteArray)(r:Rc):List Kp:=Wc k r (r.st==0) l
def Zn9(l:List Kp):Prop:=l.Pairwise (fun a b=>kb a.1<kb b.1)
theorem Vf{k:ByteArray}{r:Rc}{p:Kp}:∀ {l:List Kp} {d:Bool},p∈Wc k r d l↔(p∈l∧p.1≠k)∨(d=false∧p=(k,r))
 | [],true=>by simp[Wc]
 | [],false=>by simp[Wc]
 | q::l,d=>by
  rw[Wc];split
  ·rename_i hq;rw[Vf];constructor
   ·rintro(⟨h1,h2⟩|h)
    ·exact .inl ⟨Zj4 _ h1,h2⟩
    exact .inr h
   rintro(⟨h1,h2⟩|h)
   ·rcases Zg.1 h1 with h1|h1
    ·subst h1;exact absurd hq h2
    exact .inl ⟨h1,h2⟩
   exact .inr h
  rename_i hq;split
  ·rename_i hd;simp only[Zg,Vf (d:=true),Bool.true_eq_false,false_and,Zkl];constructor
   ·rintro(h|h | ⟨h1,h2⟩)
    ·exact .inr ⟨hd.1,h⟩
    ·subst h;exact .inl ⟨.inl rfl,hq⟩
    exact .inl ⟨.inr h1,h2⟩
   rintro(⟨h1|h1,h2⟩ | ⟨_,h⟩)
   ·exact .inr (.inl h1)
   ·exact .inr (.inr ⟨h1,h2⟩)
   exact .inl h
  simp only[Zg,Vf (d:=d)];constructor
  ·rintro(h | ⟨h1,h2⟩|h)
   ·subst h;exact .inl ⟨.inl rfl,hq⟩
   ·exact .inl ⟨.inr h1,h2⟩
   exact .inr h
  rintro(⟨h1|h1,h2⟩|h)
  ·exact .inl h1
  ·exact .inr (.inl ⟨h1,h2⟩)
  exact .inr (.inr h)
theorem K6{k:ByteArray}{r:Rc}:∀ {l:List Kp} {d:Bool},Zn9 l→Zn9 (Wc k r d l)
 | [],true,_=>by simp[Wc,Zn9]
 | [],false,_=>by simp[Wc,Zn9]
 | q::l,d,h=>by
  obtain⟨h1,h2⟩:=Zke.1 h;rw[Wc];split
  ·exact K6 h2
  rename_i hq;split
  ·rename_i hd;refine Zke.2 ⟨fun p hp=>?_,Zke.2 ⟨fun p hp=>?_,K6 h2⟩⟩
   ·rcases Zg.1 hp with hp|hp
    ·subst hp;exact hd.2
    rcases Vf.1 hp with⟨hp,_⟩ | ⟨hf,_⟩
    ·exact Zhe hd.2 (h1 p hp)
    simp at hf
   rcases Vf.1 hp with⟨hp,_⟩ | ⟨hf,_⟩
   ·exact h1 p hp
   simp at hf
  rename_i hd;refine Zke.2 ⟨fun p hp=>?_,K6 h2⟩;rcases Vf.1 hp with⟨hp,_⟩ | ⟨hf,hp⟩
  ·exact h1 p hp
  subst hp;rcases Zpj hq with hl|hl
  ·exact hl
  exact absurd ⟨hf,hl⟩ hd
theorem Qb{k:ByteArray}{r:Rc}:∀ {l:List Kp} {d:Bool},Vx (Wc k r d l) k=if d then default else r
 | [],true=>by simp[Wc,Vx]
 | [],false=>by simp[Wc,Vx]
 | q::l,d=>by
  rw[Wc];split
  ·exact Qb
  rename_i hq;split
  ·rename_i hd;simp[Vx,hd.1]
  rw[Vx,Zlq hq];exact Qb
theorem Vb{k k':ByteArray}{r:Rc}(hne:k'≠k):∀ {l:List Kp} {d:Bool},Vx (Wc k r d l) k'=Vx l k'
 | [],true=>by simp[Wc,Vx]
 | [],false=>by simp[Wc,Vx,Ne.symm hne]
 | q::l,d=>by
  rw[Wc];split
  ·rename_i hq;rw[Vb hne,Vx,Zlq (by rw[hq];exact fun e=>hne e.symm)]
  rename_i hq;split
  ·rw[Vx,Zlq (fun e=>hne e.symm),Vx,Vx];split
   ·rfl
   exact Vb hne
  rw[Vx,Vx];split
  ·rfl
  exact Vb hne
theorem Lv{k:ByteArray}{r:Rc}:∀ {l:List Kp} {d:Bool},Zn9 l→(Wc k r d l).length+(if ∃ p∈l,p.1=k then 1 else 0)=l.length+(if d then 0 else 1)
 | [],true,_=>by simp[Wc]
 | [],false,_=>by simp[Wc]
 | q::l,d,h=>by
  obtain⟨h1,h2⟩:=Zke.1 h;have ih:=fun d=>Lv (k:=k) (r:=r) (d:=d) h2
  rw[Wc];split
  ·rename_i hq;have hno:¬ ∃ p∈l,p.1=k:=by
    rintro⟨p,hp,e⟩;have:=h1 p hp;rw[e,hq]at this;exact Zir _ this
   have:=ih d;rw[Zlq hno]at this;rw[Zlm ⟨q,by simp,hq⟩];simp only[Zl];omega
  rename_i hq;have hiff:(∃ p∈q::l,p.1=k)↔∃ p∈l,p.1=k:=by simp[hq]
  split
  ·rename_i hd;have:=ih true;simp only[hiff,Zl,hd.1]at *;simp at this⊢;omega
  have:=ih d;simp only[hiff,Zl]at *;omega
def rcD(r:Rc):DataW Unit:=.agg [.lit (.int .i64 r.st),.lit (.int .i64 r.ow),.lit (.string r.nm.data.toList),.lit (.int .i64 r.dl)]
theorem Zng{a b:Rc}(h:rcD a=rcD b):a=b:=by
 obtain⟨a1,a2,a3,a4⟩:=a;obtain⟨b1,b2,b3,b4⟩:=b;simp only[rcD,DataW.agg.injEq,Zhu,DataW.lit.injEq,Lit.int.injEq,Lit.string.injEq,Zlc,Zky]at h;obtain⟨h1,h2,h3,h4⟩:=h;have:=Nd h3;subst h1 h2 this h4;rfl
theorem I9(k:ByteArray):WideAt.IsKeyLit (.string (kb k)):=by simp[WideAt.IsKeyLit]
structure Mi(D:DataW Unit)(l:List Kp):Prop where
 tidy:Tidy D
 asc:Zn9 l
 get:∀ k,D.atKey (.string (kb k)) (rcD default)=rcD (Vx l k)
 has:∀ k,Maps.has D (.string (kb k))=true↔∃ p∈l,p.1=k
 size:Maps.size D=l.length
theorem Mi.empty:Mi (.map []) []:=⟨Zht,List.Pairwise.nil,fun _=>rfl,fun k=>by simp[Maps.has],rfl⟩
theorem Zyv{k k':ByteArray}(h:k'≠k):(Lit.string (kb k'))≠.string (kb k):=fun e=>by
 simp only[Lit.string.injEq]at e;exact h (Nd e)
theorem Mi.put{D:DataW Unit}{l:List Kp}(h:Mi D l)(k:ByteArray)(r:Rc)(hr:r.st≠0):Mi (D.put (.string (kb k)) (rcD r)) (Ko l k r):=by
 have hd:(r.st==0)=false:=by simpa using hr
 unfold Ko;rw[hd];have hm:=h.tidy.isMap;refine⟨h.tidy.put (I9 k) _,K6 h.asc,fun k'=>?_,fun k'=>?_,?_⟩
 ·by_cases hk:k'=k
  ·subst hk;rw[Maps.atKey_put_same hm (I9 k'),Qb];simp
  rw[Maps.atKey_put_other (Zyv hk),h.get,Vb hk]
 ·by_cases hk:k'=k
  ·subst hk;rw[Maps.has_put_same hm (I9 k')];simp only[true_iff];exact⟨(k',r),Vf.2 (.inr ⟨rfl,rfl⟩),rfl⟩
  rw[Zie (Zyv hk),h.has];constructor
  ·rintro⟨p,hp,e⟩;exact⟨p,Vf.2 (.inl ⟨hp,by rw[e];exact hk⟩),e⟩
  rintro⟨p,hp,e⟩;rcases Vf.1 hp with⟨hp,_⟩ | ⟨_,hp⟩
  ·exact⟨p,hp,e⟩
  subst hp;exact absurd e.symm hk
 rw[Maps.size_put h.tidy,h.size];have:=Lv (k:=k) (r:=r) (d:=false) h.asc;have hh:=h.has k;cases hb:Maps.has D (.string (kb k))with
 | true=>rw[Zlm (hh.1 hb)]at this;simp at this⊢;omega
 | false=>rw[Zlq (fun e=>by rw[hh.2 e]at hb;simp at hb)]at this;simp at this⊢;omega
theorem Mi.del{D:DataW Unit}{l:List Kp}(h:Mi D l)(k:ByteArray)(r:Rc)(hr:r.st=0):Mi (D.del (.string (kb k))) (Ko l k r):=by
 have hd:(r.st==0)=true:=by simpa using hr
 unfold Ko;rw[hd];refine⟨h.tidy.del _,K6 h.asc,fun k'=>?_,fun k'=>?_,?_⟩
 ·by_cases hk:k'=k
  ·subst hk;rw[Maps.atKey_del_same,Qb];simp
  rw[Maps.atKey_del_other (Zyv hk),h.get,Vb hk]
 ·by_cases hk:k'=k
  ·subst hk;rw[Maps.has_del_same];simp only[Zid,false_iff];rintro⟨p,hp,e⟩;rcases Vf.1 hp with⟨_,hp⟩ | ⟨hf,_⟩
   ·exact hp e
   simp at hf
  rw[Maps.has_del_other (Zyv hk),h.has];constructor
  ·rintro⟨p,hp,e⟩;exact⟨p,Vf.2 (.inl ⟨hp,by rw[e];exact hk⟩),e⟩
  rintro⟨p,hp,e⟩;rcases Vf.1 hp with⟨hp,_⟩ | ⟨_,hp⟩
  ·exact⟨p,hp,e⟩
  subst hp;exact absurd e.symm hk
 have hs:=Maps.size_del (k:=.string (kb k)) h.tidy;have:=Lv (k:=k) (r:=r) (d:=true) h.asc;have hh:=h.has k;rw[h.size]at hs;cases hb:Maps.has D (.string (kb k))with
 | true=>rw[Zlm (hh.1 hb)]at this;rw[hb]at hs;simp at this hs⊢;omega
 | false=>rw[Zlq (fun e=>by rw[hh.2 e]at hb;simp at hb)]at this;rw[hb]at hs;simp at this hs⊢;omega
theorem Q2{a b:Bool}(h:a=b):Ending.returned (.bool a)=.returned (.bool b):=by rw[h]
theorem Bi:(Tryz.prog.info? 9).map (fun i=>(i.zero,i.size,i.bytes))=some (some (.string ⟨#[]⟩),1,16):=by kernel_rfl
theorem Zpu:Tryz.prog.underlying 24=some (.slice 9):=by kernel_rfl
theorem Yi{p:Prop}[Decidable p](h:¬ p:=by omega):decide p=false:=decide_eq_false h
theorem Yh{p:Prop}[Decidable p](h:p:=by omega):decide p=true:=decide_eq_true h
theorem Yg(a:Option Addr)(b c:Nat)(a2:Option Addr)(b2 c2:Nat):(Value.slice a b c=Value.slice a2 b2 c2)=(a=a2∧b=b2∧c=c2):=Value.slice.injEq a b c a2 b2 c2
theorem Yf{A:Type _}(a b:A):(some a=some b)=(a=b):=Option.some.injEq a b
theorem Ye:(Value.tuple #[]:Value)=undef:=rfl
theorem Yd:(undef:Value)=.tuple #[]:=rfl
theorem xE{w w':World}(h:Ext w w':=by repeat'(first|exact Ext.refl _|assumption|apply Ext.alloc|apply Ext.drewN|apply Ext.drew|(refine Ext.trans ?_ (by assumption)))):Ext w w':=h
end
def Yn:=@Ext.refl
def Ym:=@Ext.alloc
def Yl:=@Ext.drewN
def Yk:=@Ext.drew
def Yj:=@Ext.trans
end Go.Proofs.YtnbclgbicnpmnaaGreat
