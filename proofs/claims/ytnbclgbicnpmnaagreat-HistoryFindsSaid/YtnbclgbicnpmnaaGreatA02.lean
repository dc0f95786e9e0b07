/- Lemmas of this claim: Ground. Conditions: as named. -/
import Derived.BigQuiet
import Derived.Deep.DeepCutAuto
import Derived.Deep.QuietTactic
import Derived.Deep.RegionHeld3
import Derived.Laws.IdiomStrings
import Derived.Lib.Hide
import Derived.Maps.AppendAt
import Derived.Maps.OwnSet
import Derived.OwnWalk
import Derived.RegionTactic
import Derived.Sort.Grow
import Derived.Test.YtnbclgbicnpmnaaGreatProg
import Derived.WalkKit
import Derived.WalkLawsBesides
import Derived.WalkSpells
namespace Go.Proofs.YtnbclgbicnpmnaaGreat
open Go.RowKit Go.Sort Tryz
set_option maxHeartbeats 0
set_option maxRecDepth 100000
set_option linter.all false
def Zz:=@List.getElem?_eq_getElem
def Zy:=@List.mem_of_getElem?
def Zx:=@List.getElem?_cons_zero
def Zw:=@List.getElem?_cons_succ
def Zv:=@List.setIfInBounds_toArray
def Zu:=@List.set_cons_zero
def Zt:=@List.set_cons_succ
def Zs:=@List.length_append
def Zr:=@List.getElem?_eq_some_iff
def Zq:=@List.length_map
def Zp:=@List.length_take
def Zo:=@List.nil_append
def Zn:=@List.getElem?_map
def Zm:=@List.take_of_length_le
def Zl:=@List.length_cons
def Zk:=@List.length_nil
def Zj:=@List.mem_append
def Zi:=@List.mem_singleton
def Zh:=@List.not_mem_nil
def Zg:=@List.mem_cons
def Zf:=@List.length_set
def Ze:=@List.getElem?_append_left
def Zd:=@List.getElem?_append_right
def Zc:=@List.getElem?_set_self
def Zb:=@List.getElem?_set_ne
def Za:=@List.take_add_one
def Z2:=@List.length_replicate
def Z3:=@List.filterMap_cons
def Z4:=@List.filterMap_nil
def Z5:=@List.getElem?_toArray
def Z6:=@List.drop_succ_cons
def Z7:=@List.drop_zero
def Z8:=@List.take_succ_cons
def Z9:=@List.take_zero
def Yz:=@List.length_drop
def Yy:=@List.map_append
def Yx:=@List.getElem?_drop
def Yw:=@List.getElem?_take
def Yv:=@List.getElem?_set
def Yu:=@Go.wpQuiet_step
def Yt:=@Go.wpQuiet_nil
def Ys:=@Go.bodyPost_ret
def Yr:=@AllReadyH.cons
def Yq:=@AllReadyH.nil
def Yp:=@IntWalk.i64_in
def Yo:=@Classical.choose_spec
def Yn:=@Nat.le_refl
def Ym:=@_root_.ByteArray.size_append
def Zk8:=@Nat.lt_of_lt_of_le
def Zk9:=@if_neg
def Zjz:=@Array.getElem?_eq_some_iff
def Zjy:=@Option.some.inj
def Zjx:=@if_pos
def Zjw:=@Nat.le_trans
def Zjv:=@Go.wpAnyH_ready
def Zju:=@Go.info_parts
def Zjt:=@Array.getElem?_eq_getElem
def Zjs:=@List.mem_map
def Zjr:=@List.getElem?_of_mem
def Zjq:=@Array.getD_eq_getD_getElem?
def Zjp:=@Go.Addr.mk.injEq
def Zjo:=@Go.wp_region_held_drew
def Zjn:=@Nat.zero_le
def Zjm:=@decide_eq_true_eq
def Zjl:=@Option.map_eq_some_iff
def Zjk:=@List.eq_nil_of_length_eq_zero
def Zjj:=@true_and
def Zji:=@decide_eq_false_iff_not
def Zjh:=@List.pairwise_iff_getElem
def Zjg:=@Bool.and_eq_true
def Zjf:=@Go.wpAnyH_done
def Zje:=@Nat.mul_le_mul_right
def Zjd:=@Nat.zero_add
def Zjc:=@Go.heap_alloc_new
def Zjb:=@Go.World.cell?_setCell_other
def Zja:=@List.nodup_cons
def Zj0:=@List.map_cons
def Zj1:=@Go.ByteArray.toList_eq
def Zj2:=@Go.World.frozen?_setCell
def Zj3:=@List.length_singleton
def Zj4:=@Nat.eq_zero_or_pos
def Zj5:=@List.pairwise_cons
def Zj6:=@and_true
def Zj7:=@Go.Lib.hid
def Zj8:=@of_decide_eq_false
def Zj9:=@List.mem_range
def Ziz:=@List.map_nil
def Ziy:=@List.getD_eq_getElem?_getD
def Zix:=@Nat.add_zero
def Ziw:=@ByteArray.size_extract
def Ziv:=@Bool.eq_false_or_eq_true
def Ziu:=@List.getElem?_take_of_lt
def Zit:=@Go.World.cell?_setCell_same
def Zis:=@Nat.lt_or_ge
def Zir:=@Go.Result.andThen_ok
def Ziq:=@of_decide_eq_true
def Zip:=@Int.le_refl
def Zio:=@Nat.le_succ
def Zin:=@or_false
def Zim:=@List.drop_of_length_le
def Zil:=@Option.map_some
def Zik:=@Classical.byContradiction
def Zij:=@List.mem_or_eq_of_mem_set
def Zii:=@List.any_eq_true
def Zih:=@Go.wpAnyH_take
def Zig:=@Bool.not_eq_true'
def Zif:=@List.foldl_append
def Zie:=@Go.World.ownsRow_nil
def Zid:=@Nat.add_assoc
def Zic:=@Nat.add_sub_cancel
def Zib:=@Bool.eq_iff_iff
def Zia:=@Go.World.cell?_of_block
def Zi0:=@Go.IntKind.wrap_i64
def Zi1:=@Array.all_eq_true_iff_forall_mem
def Zi2:=@Nat.lt_trichotomy
def Zi3:=@List.length_range
def Zi4:=@List.map_set
def Zi5:=@List.eq_nil_iff_forall_not_mem
def Zi6:=@List.map_map
def Zi7:=@List.countP_cons
def Zi8:=@Nat.add_mul
def Zi9:=@Go.IntWalk.u8_in
def Zhz:=@List.lt_irrefl
def Zhy:=@Go.Sort.permIn_trans
def Zhx:=@Go.Calls.mono
def Zhw:=@Int.toNat_of_nonneg
def Zhv:=@Bool.or_eq_true
def Zhu:=@Nat.one_mul
def Zht:=@Array.getElem?_modify
def Zhs:=@Go.Sem.run_bind
def Zhr:=@Go.Sem.run_pure
def Zhq:=@Nat.lt_or_eq_of_le
def Zhp:=@Nat.min_eq_left
def Zho:=@Function.comp_def
def Zhn:=@Go.Sort.permIn_refl
def Zhm:=@Option.getD_some
def Zhl:=@Nat.min_eq_right
def Zhk:=@Go.wpList_store_mid
def Zhj:=@List.mem_cons_self
def Zhi:=@List.filter_append
def Zhh:=@List.mem_filter
def Zhg:=@List.take_sublist_take_left
def Zhf:=@Nat.lt_succ_iff
def Zhe:=@List.getElem?_eq_none
def Zhd:=@List.ext_getElem?
def Zhc:=@List.flatMap_cons
def Zhb:=@List.mem_cons_of_mem
def Zha:=@List.drop_eq_getElem_cons
def Zh0:=@List.getLast?_eq_getElem?
def Zh1:=@List.all_eq_true
def Zh2:=@List.length_pos_iff
def Zh3:=@Array.length_toList
def Zh4:=@Option.isSome_iff_exists
def Zh5:=@List.set_set
def Zh6:=@Go.RowKit.Below.heap_setCell
def Zh7:=@List.lt_trans
def Zh8:=@List.set_eq_take_append_cons_drop
def Zh9:=@List.range_succ
def Zgz:=@Option.toList_some
def Zgy:=@List.foldl_cons
def Zgx:=@List.append_nil
def Zgw:=@Array.getElem?_eq_none
def Zgv:=@Go.Maps.keyOf_int_mk
def Zgu:=@List.Sublist.refl
def Zgt:=@List.take_sublist
def Zgs:=@Nat.ne_of_lt
def Zgr:=@Go.wpList_plain
def Zgq:=@getElem!_pos
def Zgp:=@Go.RowKit.Below.heap_alloc
def Zgo:=@List.take_append_of_le_length
def Zgn:=@Array.getElem?_setIfInBounds
def Zgm:=@List.any_append
def Zgl:=@List.set_append
def Zgk:=@Nat.mul_one
def Zgj:=@Nat.div_le_self
def Zgi:=@Go.World.rangeAt_setCells_same
def Zgh:=@List.perm_ext_iff_of_nodup
def Zgg:=@Go.Maps.has_put_other
def Zgf:=@Go.World.ownsMap_made
def Zge:=@List.countP_append
def Zgd:=@Array.any_eq_true'
def Zgc:=@Nat.mul_comm
def Zgb:=@Nat.sub_self
def Zga:=@List.getLastD_eq_getLast?
def Zg0:=@Int.toNat_natCast
def Zg1:=@List.any_eq_false
def Zg2:=@List.nodup_append
def Zg3:=@List.eq_of_mem_replicate
def Zg4:=@List.sublist_append_left
def Zg5:=@Prod.mk.injEq
def Zg6:=@Nat.add_sub_cancel_left
def Zg7:=@Go.Sort.permIn_mono
def Zg8:=@List.getElem_mem
def Zg9:=@Bool.not_eq_true
def Zfz:=@List.getElem_map
def Zfy:=@List.ext_getElem
def Zfx:=@List.cons.injEq
def Zfw:=@Go.Maps.tidy_empty
def Zfv:=@Nat.zero_mul
def Zfu:=@Go.wpList_load_mid
def Zft:=@Go.wpOp_mono
def Zfs:=@beq_iff_eq
def Zfr:=@Go.Sort.permIn_all
def Zfq:=@Nat.mul_le_mul
def Zfp:=@Int.mul_le_mul
def Zfo:=@if_true
def Zfn:=@Bool.false_or
def Zfm:=@if_false
def Zfl:=@dif_pos
section
def Y0(p:Prop):Prop:=p
theorem Y0.o{p:Prop}(h:Y0 p):p:=h
theorem Y4{p:Prop}(h:p):Y0 p:=h
theorem gnX{A:Sort _}(x:A):∃ y,x=y:=⟨x,rfl⟩
theorem geX{A:Type _}{l:List A}{i:Nat}(h:i<l.length):∃ s,l[i]?=some s:=⟨l[i],Zz h⟩
theorem LTl(i n:Nat)(h:i<n:=by omega):decide ((i:Int)<(n:Int))=true∧(0:Int)≤i∧(i:Int)<n:=⟨by simpa using h,by omega,by omega⟩
theorem LTd(i n:Nat)(h:i<n:=by omega):decide ((i:Int)<(n:Int))=true:=by simpa using h
theorem GEl(i n:Nat)(h:¬ i<n:=by omega):decide ((i:Int)<(n:Int))=false:=by simpa using h
def later(w:World)(d:Nat)(os:Array Obj):World:={heap:=w.heap++os,tape:=w.tape,drawn:=d,os:=w.os,output:=w.output}
theorem L8(w:World)(d d':Nat)(os os':Array Obj):later (later w d os) d' os'=later w d' (os++os'):=by simp[later,Array.append_assoc]
theorem Kj(w:World)(d:Nat):later w d #[]={w with drawn:=d}:=by simp[later]
theorem Zwk(w:World)(d:Nat)(os:Array Obj):(later w d os).heap.size=w.heap.size+os.size:=by simp[later]
theorem Lb(w:World)(d:Nat)(os:Array Obj){k:Nat}(h:k<w.heap.size):(later w d os).heap[k]?=w.heap[k]?:=by simp[later,Array.getElem?_append,h]
def Ext(w w':World):Prop:=∃ (d:Nat) (os:Array Obj),w'=later w d os
theorem Ext.refl(w:World):Ext w w:=⟨w.drawn,#[],by rw[Kj]⟩
theorem Ext.trans{a b c:World}(h:Ext a b)(k:Ext b c):Ext a c:=by
 obtain⟨n,os,rfl⟩:=h;obtain⟨m,os',rfl⟩:=k;exact⟨m,os++os',L8 _ _ _ _ _⟩
theorem Ext.drew{a w:World}(h:Ext a w):Ext a w.drew:=h.trans ⟨w.drawn+1,#[],by rw[Kj];rfl⟩
theorem Ext.drewN{a w:World}(h:Ext a w)(n:Nat):Ext a (w.drewN n):=h.trans ⟨w.drawn+n,#[],by rw[Kj];rfl⟩
theorem Ext.alloc{a w:World}(h:Ext a w)(o:Obj):Ext a (w.alloc o):=h.trans ⟨w.drawn,#[o],by unfold World.alloc later;rw[Array.append_singleton]⟩
theorem Ext.size{a w:World}(h:Ext a w):a.heap.size≤w.heap.size:=by
 obtain⟨n,os,rfl⟩:=h;rw[Zwk];omega
theorem Ext.block{a w:World}(h:Ext a w){k:Nat}(hk:k<a.heap.size):w.heap[k]?=a.heap[k]?:=by
 obtain⟨n,os,rfl⟩:=h;exact Lb _ _ _ hk
theorem Ext.below{a w:World}(h:Ext a w):Below a.heap.size a w:=by
 have hs:=h.size;have hb:∀ k,k<a.heap.size→w.heap[k]?=a.heap[k]?:=fun k hk=>h.block hk
 obtain⟨n,os,rfl⟩:=h;exact⟨rfl,rfl,rfl,hs,hb⟩
theorem Ext.cell{a w:World}(h:Ext a w){p:Addr}(hp:p.block<a.heap.size):w.cell? p=a.cell? p:=h.below.cell hp
theorem Ext.frozen{a w:World}(h:Ext a w){p:Addr}(hp:p.block<a.heap.size):w.frozen? p=a.frozen? p:=h.below.frozen hp
structure Chg(S:Nat→Prop)(w w':World):Prop where
 os:w'.os=w.os
 tape:w'.tape=w.tape
 output:w'.output=w.output
 size:w.heap.size≤w'.heap.size
 block:∀ k,k<w.heap.size→¬ S k→w'.heap[k]?=w.heap[k]?
theorem Chg.refl(S:Nat→Prop)(w:World):Chg S w w:=⟨rfl,rfl,rfl,Yn _,fun _ _ _=>rfl⟩
theorem Chg.trans{S:Nat→Prop}{a b c:World}(h:Chg S a b)(k:Chg S b c):Chg S a c :=
 ⟨k.os.trans h.os,k.tape.trans h.tape,k.output.trans h.output,Zjw h.size k.size,fun i hi hS=>(k.block i (Zk8 hi h.size) hS).trans (h.block i hi hS)⟩
theorem Chg.mono{S T:Nat→Prop}{a b:World}(h:Chg S a b)(hST:∀ k,k<a.heap.size→S k→T k):Chg T a b :=
 ⟨h.os,h.tape,h.output,h.size,fun i hi hT=>h.block i hi fun hS=>hT (hST i hi hS)⟩
theorem Chg.drew{S:Nat→Prop}{a w:World}(h:Chg S a w):Chg S a w.drew:=h.trans ⟨rfl,rfl,rfl,Yn _,fun _ _ _=>rfl⟩
theorem Chg.drewN{S:Nat→Prop}{a w:World}(h:Chg S a w)(n:Nat):Chg S a (w.drewN n):=h.trans ⟨rfl,rfl,rfl,Yn _,fun _ _ _=>rfl⟩
theorem Chg.alloc{S:Nat→Prop}{a w:World}(h:Chg S a w)(o:Obj):Chg S a (w.alloc o) :=
 h.trans ⟨rfl,rfl,rfl,by simp,fun k hk _=>Zgp w o k hk⟩
theorem Chg.setCell{S:Nat→Prop}{a w:World}(h:Chg S a w){p:Addr}(hp:S p.block∨a.heap.size≤p.block)(u:Value):Chg S a (w.setCell p u):=by
 refine⟨h.os,h.tape,h.output,by simpa[World.setCell]using h.size,fun k hk hS=>?_⟩;rw[Zh6 w p u k (by rintro rfl;rcases hp with hp|hp;exact hS hp;omega)];exact h.block k hk hS
theorem Chg.grown{S:Nat→Prop}{a w w':World}{row:Option Nat}(h:Chg S a w)(g:w.grownBy w' row)(hr:∀ k,row=some k→S k∨a.heap.size≤k):Chg S a w':=by
 refine⟨g.os.trans h.os,g.tape.trans h.tape,g.output.trans h.output,Zjw h.size g.size,fun k hk hS=>?_⟩;rw[g.block k (Zk8 hk h.size) (fun e=>by rcases hr k e.symm with h1|h1;exact hS h1;omega)];exact h.block k hk hS
theorem Chg.cell{S:Nat→Prop}{a w:World}(h:Chg S a w){p:Addr}(hp:p.block<a.heap.size)(hS:¬ S p.block):w.cell? p=a.cell? p:=Zia (h.block p.block hp hS)
theorem Chg.frozen{S:Nat→Prop}{a w:World}(h:Chg S a w){p:Addr}(hp:p.block<a.heap.size)(hS:¬ S p.block):w.frozen? p=a.frozen? p:=World.frozen?_of_block (h.block p.block hp hS)
theorem Ext.chg{a w:World}(h:Ext a w)(S:Nat→Prop):Chg S a w:=by
 have hs:=h.size;have hb:∀ k,k<a.heap.size→¬ S k→w.heap[k]?=a.heap[k]?:=fun k hk _=>h.block hk
 obtain⟨n,os,rfl⟩:=h;exact⟨rfl,rfl,rfl,hs,hb⟩
theorem Ext.of_chg{a w:World}(h:Chg (fun _=>False) a w):Ext a w:=by
 refine⟨w.drawn,w.heap.extract a.heap.size,?_⟩;obtain⟨h1,h2,h3,h5,h6⟩:=h;cases w with
 | mk heap tape drawn os output =>
  simp only at h1 h2 h3 h5 h6;subst h1 h2 h3;have hh:heap=a.heap++heap.extract a.heap.size:=by
   apply Array.ext_getElem?;intro i;rw[Array.getElem?_append];by_cases hi:i<a.heap.size
   ·rw[Zjx hi];exact h6 i hi (fun h=>h)
   rw[Zk9 hi,Array.getElem?_extract];split
   ·congr 1;omega
   rename_i hx;simp only[Array.getElem?_eq_none_iff];simp at hx;omega
  unfold later;simp only[World.mk.injEq];refine⟨hh,?_,?_,?_,?_⟩<;>trivial
theorem Ext.chg_new{S:Nat→Prop}{a b c:World}(h:Ext a b)(k:Chg S b c)(hS:∀ i,S i→a.heap.size≤i):Ext a c:=by
 have g:=h.chg (fun _=>False);exact Ext.of_chg ⟨k.os.trans g.os,k.tape.trans g.tape,k.output.trans g.output,Zjw g.size k.size,
  fun i hi _=>(k.block i (Zk8 hi g.size) (fun hi'=>absurd (hS i hi') (by omega))).trans (h.block hi)⟩
theorem Ya{a w:World}(h:Ext a w){p:Addr}(hp:a.heap.size≤p.block)(u:Value):Ext a (w.setCell p u) :=
 Ext.of_chg ((h.chg _).setCell (.inr hp) u)
theorem Ext.grown{a w w':World}{row:Option Nat}(h:Ext a w)(g:w.grownBy w' row)(hr:∀ k,row=some k→a.heap.size≤k):Ext a w' :=
 Ext.of_chg ((h.chg _).grown g fun k hk=>.inr (hr k hk))
def I64(n:Int):Prop:=-9223372036854775808≤n∧n≤9223372036854775807
theorem Ztq{n:Int}(h:(Lit.int .i64 n).wf=true):I64 n:=by
 simp[Lit.wf,IntKind.min,IntKind.max,IntKind.signed,IntKind.bits]at h;unfold I64;omega
def IsRow(k:IntKind)(w:World)(a:Option Addr)(len cap:Nat)(zs:List Int):Prop :=
 (a=none∧len=0∧cap=0∧zs=[]) ∨
 ∃ x,a=some x∧len≤cap∧cap≤maxLen∧zs.length=cap∧(∀ i,i<zs.length→w.cell? (x.add i)=some (.int k (zs.getD i 0)))∧∀ n∈zs,(Lit.int k n).wf=true
structure Vz where
 n:Nat
 os:Array Obj
instance:Inhabited Vz:=⟨⟨0,#[]⟩⟩
theorem Y8{P:Program}{id:Nat}{Q:Exit→Act→World→Prop}{a:Act}{w:World}{l:List Oper}(hm:P.follows .mixedOrders=true)(hB:Region.lexB .any l.toArray=true)
 (h:wpQuiet P l.toArray (fun w'=>∃ p:Vz,w'=later w p.n p.os) (fun a'=>∀ w',Ext w w'→Q .normal a' w') l a):(Code.region id l.toArray true).wp P Q a w :=
 wp_region_quiet (C:=fun w'=>∃ p:Vz,w'=later w p.n p.os) hm hB ⟨⟨w.drawn+1,#[]⟩,by rw[Kj]⟩ (by
  have e:(fun a'=>∀ w',Ext w w'→Q .normal a' w')=(fun a'=>∀ w',(∃ p:Vz,w'=later w p.n p.os)→Q .normal a' w'):=by
   funext a';apply propext;constructor
   ·rintro h w' ⟨⟨n,os⟩,rfl⟩;exact h _ ⟨n,os,rfl⟩
   rintro h w' ⟨n,os,rfl⟩;exact h _ ⟨⟨n,os⟩,rfl⟩
  rw[e]at h;simpa using h)
theorem Pb(w:World)(n:Nat)(os:Array Obj)(b o:Nat)(h:b<w.heap.size):(later w n os).cell? ⟨b,o,none⟩=w.cell? ⟨b,o,none⟩ :=
 Zia (Lb w n os h)
theorem Xy{P:Program}{f:FuncId}{args:Array Value}{w:World}{n:Nat}{os:Array Obj}{v:Value}
 (h:Calls P f args (later w n os) fun e w'=>e=.returned v∧Ext (later w n os) w'):Calls P f args (later w n os) fun e w''=>e=.returned v∧∃ p:Vz,w''=later w p.n p.os :=
 h.mono fun _ _ ⟨he,q,os',hq⟩=>⟨he,⟨q,os++os'⟩,by rw[hq];exact L8 _ _ _ _ _⟩
theorem Xq{P:Program}{f:FuncId}{args:Array Value}{w:World}{n:Nat}{os:Array Obj}{v:Value}
 (h:Calls P f args (later w n os) fun e w'=>e=.returned v∧later w n os=w'):Calls P f args (later w n os) fun e w''=>e=.returned v∧∃ p:Vz,w''=later w p.n p.os :=
 h.mono fun _ _ ⟨he,hw⟩=>⟨he,⟨n,os⟩,hw.symm⟩
def Bl(n:Int):Bool:=decide (0≤n)&&decide (n≤1073741824)
theorem Q9{n:Int}(h:0≤n∧n≤1073741824):Bl n=true:=by simp[Bl,h.1,h.2]
theorem Nt{n:Int}(h:n<0∨1073741824<n):Bl n=false:=by simp[Bl];omega
theorem Ec(n:Int)(w:World):Calls prog 173 #[.int .i64 n] w fun e w'=>e=.returned (.bool (Bl n))∧w=w':=by
 unfold Bl;by_cases h:0≤n
 ·have h':decide (0≤n)=true:=by simpa using h
  go_enter func173,ntmps173;go_wp2;go_ret
  simp_all
 have h':decide (0≤n)=false:=by simpa using h
 go_enter func173,ntmps173;go_wp2;go_ret
 simp_all
theorem U9(n:Int)(w:World):Calls prog 153 #[.int .i64 n] w fun e w'=>e=.returned (.bool (Bl n))∧w=w':=by
 unfold Bl;by_cases h:0≤n
 ·have h':decide (0≤n)=true:=by simpa using h
  go_enter func153,ntmps153;go_wp2;go_ret
  simp_all
 have h':decide (0≤n)=false:=by simpa using h
 go_enter func153,ntmps153;go_wp2;go_ret
 simp_all
def Zzj(v n:Int):Int:=(v%18446744073709551616)%n
theorem Zw1(v n:Int)(h1:1≤n)(h2:n≤9223372036854775807):wrap64 ((IntKind.u64.wrap v).tmod n)=Zzj v n:=by
 have e:IntKind.u64.wrap v=v%18446744073709551616:=by simp[IntKind.wrap,IntKind.bits,IntKind.signed]
 unfold Zzj wrap64;rw[e,Int.tmod_eq_emod_of_nonneg (by omega)];have:=Int.emod_lt_of_pos (v%18446744073709551616) (show 0<n by omega);have:=Int.emod_nonneg (v%18446744073709551616) (show n≠0 by omega);omega
theorem Fc(v n:Int)(h1:1≤n):0≤Zzj v n∧Zzj v n<n :=
 ⟨Int.emod_nonneg _ (by omega),Int.emod_lt_of_pos _ (by omega)⟩
theorem pick_any(v n:Int)(h1:1≤n)(h2:n≤9223372036854775807)(w:World) :
 Calls prog 23 #[.int .i64 v,.int .i64 n] w fun e w'=>e=.returned (.int .i64 (Zzj v n))∧w=w':=by
 have H:=Y4 (Zw1 v n h1 h2);go_enter func23,ntmps23;go_wp2;go_ret;exact⟨by show Ending.returned (.int .i64 (wrap64 ((IntKind.u64.wrap v).tmod n)))=_;rw[H.o],rfl⟩
def Nf(now n:Int):Int:=if Bl now=false then 0 else if n<0 then now else if 1073741824-now<n then 1073741824 else now+n
theorem Zqk{now n:Int}(h:Bl now=false):Nf now n=0:=by simp[Nf,h]
theorem Pg{now n:Int}(h:Bl now=true)(hn:n<0):Nf now n=now:=by simp[Nf,h,hn]
theorem Fn{now n:Int}(h:Bl now=true)(hn:0≤n)(hf:1073741824-now<n):Nf now n=1073741824:=by simp[Nf,h,hf];omega
theorem Pf{now n:Int}(h:Bl now=true)(hn:0≤n)(hf:n≤1073741824-now):Nf now n=now+n:=by
 have h1:¬ n<0:=by omega
 have h2:¬ 1073741824-now<n:=by omega
 simp[Nf,h,h1,h2]
theorem Ta(now n:Int)(w:World):Calls prog 116 #[.int .i64 now,.int .i64 n] w fun e w'=>e=.returned (.int .i64 (Nf now n))∧w=w':=by
 by_cases ht:0≤now∧now≤1073741824
 ·obtain⟨t0,t1⟩:=ht;have hb:=Q9 ⟨t0,t1⟩;by_cases hn:n<0
  ·have H:=Y4 (Pg hb hn);go_enter func116,ntmps116;go_wp2_with (go_at_call 153;refine(U9 _ _).mono ?_;rintro e w' ⟨rfl,rfl⟩);go_ret;exact⟨by rw[H.o];rfl,rfl⟩
  have hn':0≤n:=by omega
  by_cases hm:1073741824<n
  ·have H:=Y4 (Fn hb hn' (by omega));go_enter func116,ntmps116;go_wp2_with (go_at_call 153;refine(U9 _ _).mono ?_;rintro e w' ⟨rfl,rfl⟩);go_ret;exact⟨by rw[H.o];rfl,rfl⟩
  by_cases hf:1073741824-now<n
  ·have H:=Y4 (Fn hb hn' hf);have hlt:1073741824<now+n:=by omega
   go_enter func116,ntmps116;go_wp2_with (go_at_call 153;refine(U9 _ _).mono ?_;rintro e w' ⟨rfl,rfl⟩);go_ret;exact⟨by rw[H.o];rfl,rfl⟩
  have hf':n≤1073741824-now:=by omega
  have H:=Y4 (Pf hb hn' hf');have hlt:now+n≤1073741824:=by omega
  go_enter func116,ntmps116;go_wp2_with (go_at_call 153;refine(U9 _ _).mono ?_;rintro e w' ⟨rfl,rfl⟩);go_ret;exact⟨by rw[H.o];rfl,rfl⟩
 have hb:=Nt (show now<0∨1073741824<now by omega);have H:=Y4 (Zqk (n:=n) hb);go_enter func116,ntmps116;go_wp2_with (go_at_call 153;refine(U9 _ _).mono ?_;rintro e w' ⟨rfl,rfl⟩);go_ret;exact⟨by rw[H.o];rfl,rfl⟩
def dlV(now ttl:Int):Int:=if Bl now=true∧1≤ttl∧ttl≤1073741824∧ttl≤1073741824-now then now+ttl else 0
def dlE(now ttl:Int):Int:=if Bl now=true∧1≤ttl∧ttl≤1073741824 then(if ttl≤1073741824-now then 0 else 8)else 3
theorem Zku{a b c d:Int}(h:a=b)(k:c=d):Ending.returned (.tuple #[.int .i64 a,.int .i64 c])=.returned (.tuple #[.int .i64 b,.int .i64 d]):=by rw[h,k]
theorem Aq(now ttl:Int)(w:World):Calls prog 159 #[.int .i64 now,.int .i64 ttl] w fun e w'=>e=.returned (.tuple #[.int .i64 (dlV now ttl),.int .i64 (dlE now ttl)])∧w=w':=by
 by_cases ht:0≤now∧now≤1073741824
 ·obtain⟨t0,t1⟩:=ht;have hb:=Q9 ⟨t0,t1⟩;have Hb:=Y4 hb;by_cases h1:ttl<1
  ·go_enter func159,ntmps159;go_wp2_with (go_at_call 173;refine(Ec _ _).mono ?_;rintro e w' ⟨rfl,rfl⟩);go_ret2;exact⟨Zku (by unfold dlV;rw[Zk9 (by omega)]) (by unfold dlE;rw[Zk9 (by omega)]),rfl⟩
  by_cases h2:1073741824<ttl
  ·go_enter func159,ntmps159;go_wp2_with (go_at_call 173;refine(Ec _ _).mono ?_;rintro e w' ⟨rfl,rfl⟩);go_ret2;exact⟨Zku (by unfold dlV;rw[Zk9 (by omega)]) (by unfold dlE;rw[Zk9 (by omega)]),rfl⟩
  by_cases h3:1073741824-now<ttl
  ·go_enter func159,ntmps159;go_wp2_with (go_at_call 173;refine(Ec _ _).mono ?_;rintro e w' ⟨rfl,rfl⟩);go_ret2;exact⟨Zku (by unfold dlV;rw[Zk9 (by omega)]) (by unfold dlE;rw[Zjx ⟨Hb.o,by omega,by omega⟩,Zk9 (by omega)]),rfl⟩
  go_enter func159,ntmps159;go_wp2_with (go_at_call 173;refine(Ec _ _).mono ?_;rintro e w' ⟨rfl,rfl⟩);go_ret2;exact⟨Zku (by unfold dlV;rw[Zjx ⟨Hb.o,by omega,by omega,by omega⟩]) (by unfold dlE;rw[Zjx ⟨Hb.o,by omega,by omega⟩,Zjx (by omega)]),rfl⟩
 have hb:=Nt (show now<0∨1073741824<now by omega);have Hb:=Y4 hb;go_enter func159,ntmps159;go_wp2_with (go_at_call 173;refine(Ec _ _).mono ?_;rintro e w' ⟨rfl,rfl⟩);go_ret2;exact⟨Zku (by unfold dlV;rw[Zk9 (by rw[Hb.o];simp)]) (by unfold dlE;rw[Zk9 (by rw[Hb.o];simp)]),rfl⟩
def Uw(st dl now:Int):Bool:=st==2||(st==1&&decide (now<dl))
theorem Qk(st ow dl now:Int)(nm:ByteArray)(w:World) :
 Calls prog 163 #[.agg #[.int .i64 st,.int .i64 ow,.string nm,.int .i64 dl],.int .i64 now] w fun e w'=>e=.returned (.bool (Uw st dl now))∧Ext w w':=by
 unfold Uw;by_cases h2:st=2
 ·subst h2;go_enter func163,ntmps163;go_wp2;go_ret;exact⟨by simp,(Ext.refl _).alloc _⟩
 by_cases h1:st=1
 ·subst h1;go_enter func163,ntmps163;go_wp2;go_ret;exact⟨by simp,(Ext.refl _).alloc _⟩
 go_enter func163,ntmps163;go_wp2;go_ret;exact⟨by simp[h1,h2],(Ext.refl _).alloc _⟩
theorem Iz(st ow dl now:Int)(nm:ByteArray)(w:World) :
 Calls prog 104 #[.agg #[.int .i64 st,.int .i64 ow,.string nm,.int .i64 dl],.int .i64 now] w fun e w'=>e=.returned (.bool (Uw st dl now))∧Ext w w':=by
 unfold Uw;by_cases h2:st=2
 ·subst h2;go_enter func104,ntmps104;go_wp2;go_ret;exact⟨by simp,(Ext.refl _).alloc _⟩
 by_cases h1:st=1
 ·subst h1;go_enter func104,ntmps104;go_wp2;go_ret;exact⟨by simp,(Ext.refl _).alloc _⟩
 go_enter func104,ntmps104;go_wp2;go_ret;exact⟨by simp[h1,h2],(Ext.refl _).alloc _⟩
structure Rc where
 st:Int
 ow:Int
 nm:ByteArray
 dl:Int
instance:Inhabited Rc:=⟨⟨0,0,⟨#[]⟩,0⟩⟩
def Rc.cells(r:Rc):List Value:=[.int .i64 r.st,.int .i64 r.ow,.string r.nm,.int .i64 r.dl]
theorem Zln:prog.underlying 9=some .string:=by kernel_rfl
theorem Zrj:prog.underlying 224=some (.slice 5):=by kernel_rfl
theorem Zot:prog.underlying 5=some (.int .u8):=by kernel_rfl
theorem Bq{a b:List UInt8}(h:a≤b)(hne:a≠b):a<b:=by
 rcases List.le_iff_lt_or_eq.1 h with h|h
 ·exact h
 exact absurd h hne
def bs(l:List UInt8):ByteArray:=⟨l.toArray⟩
theorem Zn6(l:List UInt8):(bs l).size=l.length:=by simp[bs,ByteArray.size]
def zz(v:Int):Nat:=if 0≤v then(2*v).toNat else(-2*v-1).toNat
def leb(u:Nat):List UInt8 :=
 if u<128 then[UInt8.ofNat u]else UInt8.ofNat (u%128+128)::leb (u/128)
termination_by u
decreasing_by omega
theorem Zk0{n:Nat}(h:n<256):(UInt8.ofNat n).toNat=n:=by
 simp[UInt8.toNat_ofNat'];omega
def code(v:Int):List UInt8:=leb (zz v)
structure Nm where
 a:ByteArray
 u:ByteArray
 k:ByteArray
def Wz(op:Int):Bool:=op==1||op==3
def srt:List Nm→Bool
 | []=>true
 | [_]=>true
 | x::y::r=>decide (x.k.data.toList<y.k.data.toList)&&srt (y::r)
structure Head where
 cl:Int
 op:Int
 ttl:Int
 tick:Int
 n:Int
 at_:Nat
 bad:Bool
def Src(B:Nat)(w:World)(b:Nat):Prop :=
 ∃ (a:Option Addr) (len cap:Nat) (i:Nat),w.heap[b]?=some (.cells #[.slice a len cap,.int .i64 (i:Int)] 165 (0,0))∧B≤b∧len≤maxLen∧i≤len ∧
  (0<len→∃ x,a=some x∧x.block<B∧∀ j,j<len→∃ z,w.cell? (x.add j)=some (.int .i64 z)∧I64 z)
theorem add_block(a:Addr)(n:Nat):(a.add n).block=a.block:=by unfold Addr.add;split<;>rfl
theorem Src.keep{B b:Nat}{w w':World}(h:Src B w b)(hk:∀ k,k<B∨k=b→w'.heap[k]?=w.heap[k]?):Src B w' b:=by
 obtain⟨a,len,cap,i,hb,h0,hl,hi,hx⟩:=h;refine⟨a,len,cap,i,by rw[hk b (.inr rfl)];exact hb,h0,hl,hi,fun h=>?_⟩;obtain⟨x,e,hxb,hc⟩:=hx h;exact⟨x,e,hxb,fun j hj=>by
  obtain⟨z,hz,hb⟩:=hc j hj;exact⟨z,by rw[← hz];exact Zia (hk _ (.inl (by rw[add_block];exact hxb))),hb⟩⟩
theorem Src.drew{B b:Nat}{w:World}(h:Src B w b):Src B w.drew b:=h
theorem Src.lt{B b:Nat}{w:World}(h:Src B w b):b<w.heap.size:=by
 obtain⟨a,len,cap,i,hb,_⟩:=h;exact(Zjz.1 hb).1
theorem Src.ge{B b:Nat}{w:World}(h:Src B w b):B≤b:=by
 obtain⟨a,len,cap,i,hb,h,_⟩:=h;exact h
theorem Src.alloc{B b:Nat}{w:World}(h:Src B w b)(o:Obj):Src B (w.alloc o) b :=
 h.keep fun k hk=>Zgp w o k (by have:=h.lt;have:=h.ge;omega)
theorem Src.setCell{B b:Nat}{w:World}(h:Src B w b){p:Addr}(h1:B≤p.block)(h2:p.block≠b)(u:Value):Src B (w.setCell p u) b :=
 h.keep fun k hk=>Zh6 w p u k (by rintro rfl;rcases hk with hk|hk;omega;exact h2 hk)
theorem Src.ext{B b:Nat}{w w':World}(h:Src B w b)(he:Ext w w'):Src B w' b :=
 h.keep fun k hk=>he.block (by have:=h.lt;have:=h.ge;omega)
theorem P8(a:Option Addr)(n c:Nat)(w:World) :
 Calls prog 41 #[.slice a n c] w fun e w'=>e=.returned (.pointer (some ⟨w.heap.size,0,none⟩))∧w.alloc (.cells #[.slice a n c,.int .i64 0] 165)=w':=by
 go_enter func41,ntmps41;go_wp2;go_ret;exact⟨rfl,rfl⟩
theorem Iu{w:World}{a:Addr}{v:Value}(h:w.cell? (a.add 0)=some v):a.spot=none:=by simpa[Addr.add]using World.cell?_spot h
def Zqs(B b:Nat)(n:Int)(w:World)(e:Ending)(w':World):Prop:=∃ v:Nat,(v:Int)<n∧e=.returned (.int .i64 (v:Int))∧Src B w' b∧Chg (· = b) w w'∧w'.heap.size=w.heap.size
theorem Zub(w:World)(b k k':Nat)(u:Value):Chg (· = b) w (((w.drewN k).setCell ⟨b,1,none⟩ u).drewN k') :=
 Chg.drewN (Chg.setCell (S:=(· = b)) (p:=⟨b,1,none⟩) (Chg.drewN (Chg.refl _ w) k) (.inl rfl) u) k'
theorem Zrw{B:Nat}{w:World}{b i:Nat}{a:Option Addr}{len cap:Nat}(hb:w.heap[b]?=some (.cells #[.slice a len cap,.int .i64 (i:Int)] 165 (0,0)))(h0:B≤b)(hl:len≤maxLen)(hi:i<len)
 (hx:0<len→∃ x,a=some x∧x.block<B∧∀ j,j<len→∃ z,w.cell? (x.add j)=some (.int .i64 z)∧I64 z) (k k':Nat):Src B (((w.drewN k).setCell ⟨b,1,none⟩ (.int .i64 ((i:Int)+1))).drewN k') b:=by
 refine⟨a,len,cap,i+1,?_,h0,hl,by omega,fun h=>?_⟩
 ·have hb':(w.drewN k).heap[b]?=some (.cells #[.slice a len cap,.int .i64 (i:Int)] 165 (0,0)):=hb;show((w.drewN k).heap.modify b _)[b]?=_;rw[Zht,Zjx rfl,hb'];rfl
 obtain⟨x,hx1,hx2,hx3⟩:=hx h;refine⟨x,hx1,hx2,fun j hj=>?_⟩;obtain⟨z,hz1,hz2⟩:=hx3 j hj;refine⟨z,?_,hz2⟩;have e:((w.drewN k).setCell ⟨b,1,none⟩ (.int .i64 ((i:Int)+1))).cell? (x.add j)=(w.drewN k).cell? (x.add j):=Zia (Zh6 _ _ _ _ (by rw[add_block];exact Zgs (Zk8 hx2 h0)));exact e.trans hz1
theorem next_any(b:Nat)(n:Int)(h1:1≤n)(h2:n≤9223372036854775807)(w:World)(B:Nat)(hs:Src B w b) :
 Calls prog 42 #[.pointer (some ⟨b,0,none⟩),.int .i64 n] w (Zqs B b n w):=by
 have HS:=Y4 hs;obtain⟨a,len,cap,i,hb,hB,hl,hi,hx⟩:=hs;have hc0:w.cell? ⟨b,0,none⟩=some (.slice a len cap):=by simp[World.cell?,hb]
 have hc1:w.cell? ⟨b,1,none⟩=some (.int .i64 (i:Int)):=by simp[World.cell?,hb]
 have hf1:w.frozen? ⟨b,1,none⟩=false:=by simp[World.frozen?,hb]
 by_cases hlt:i<len
 ·have HB:=Y4 hb;have HX:=Y4 hx;have HL:=Y4 hl;have HG:=Y4 hB;obtain⟨x,rfl,hxb,hxc⟩:=hx (by omega);obtain⟨z,hz,hzb⟩:=hxc i hlt;obtain⟨_,hz0,_⟩:=hxc 0 (by omega);have hspot:=Iu hz0;clear hz0;obtain⟨xb,off,spot⟩:=x;have hs0:spot=none:=hspot;subst hs0;have hz':w.cell? ⟨xb,off+i,none⟩=some (.int .i64 z):=by rw[← hz];congr 1;simp[Addr.add]
  have hd:decide ((len:Int)≤(i:Int))=false:=by simp;omega
  have hi0:(0:Int)≤(i:Int):=by omega
  have hi1:(i:Int)<(len:Int):=by omega
  have hne:¬ xb=b:=Zgs (Zk8 hxb hB);unfold maxLen at hl;clear hb hx hxc hz hxb hspot hi hB;go_enter func42,ntmps42;go_wp2;go_quiet (fail);go_wp2;go_quiet ((go_at_call 23;exact Calls.quiet_of_same ((pick_any _ _ h1 h2 _).mono fun _ _ h=>⟨h.1,h.2.symm⟩)));go_wp2;go_ret;exact⟨(Zzj z n).toNat,by have:=Fc z n h1;omega,by rw[Zhw (Fc z n h1).1];rfl,Zrw HB.o HG.o HL.o hlt HX.o _ _,Zub _ _ _ _ _,by simp[World.setCell,World.drewN]⟩
 have hd:decide ((len:Int)≤(i:Int))=true:=by simp;omega
 have hl':len≤9223372036854775807:=by unfold maxLen at hl;omega
 go_enter func42,ntmps42;go_wp2;go_quiet (fail);go_wp2;go_ret;exact⟨0,by omega,rfl,HS.o,(Chg.refl _ _).drewN _,rfl⟩
theorem Src.chg{B b:Nat}{w w':World}{S:Nat→Prop}(h:Src B w b)(c:Chg S w w')(hb:¬ S b)(hB:∀ k,k<B→¬ S k):Src B w' b:=by
 obtain⟨a,len,cap,i,h1,h2,h3,h4,h5⟩:=h;have hl:b<w.heap.size:=(Zjz.1 h1).1;refine⟨a,len,cap,i,(c.block b hl hb).trans h1,h2,h3,h4,fun h0=>?_⟩;obtain⟨x,e,hx,hc⟩:=h5 h0;refine⟨x,e,hx,fun j hj=>?_⟩;obtain⟨z,hz,hi⟩:=hc j hj;exact⟨z,(c.cell (p:=x.add j) (by rcases Zis (x.add j).block w.heap.size with q|q;exact q;simp[World.cell?,Zgw q]at hz) (by rw[add_block];exact hB _ hx)).trans hz,hi⟩
def Kd(w:World)(a:Option Addr)(len:Nat):Prop:=len≤maxLen∧(0<len→∃ x,a=some x∧x.block<w.heap.size∧∀ j,j<len→∃ z,w.cell? (x.add j)=some (.int .i64 z)∧I64 z)
theorem Kd.of_row{w:World}{a:Option Addr}{len cap:Nat}{zs:List Int}(h:IsRow .i64 w a len cap zs):Kd w a len:=by
 refine⟨?_,fun hl=>?_⟩
 ·rcases h with⟨_,rfl,_⟩ | ⟨x,_,h1,h2,_⟩
  ·unfold maxLen;omega
  omega
 rcases h with⟨_,rfl,_⟩ | ⟨x,rfl,h1,h2,h3,h4,h5⟩
 ·omega
 have hc:∀ j,j<len→x.block<w.heap.size∧w.cell? (x.add j)=some (.int .i64 (zs.getD j 0)):=fun j hj=>by
  have hc:=h4 j (by omega);refine⟨?_,hc⟩;have hb:(x.add j).block<w.heap.size:=by
   rcases Zis (x.add j).block w.heap.size with hlt|hge
   ·exact hlt
   simp[World.cell?,Zgw hge]at hc
  rwa [add_block]at hb
 refine⟨x,rfl,(hc 0 hl).1,fun j hj=>⟨zs.getD j 0,(hc j hj).2,?_⟩⟩;have hj':j<zs.length:=by omega
 rw[Ziy,Zz hj',Zhm];exact Ztq (h5 _ (Zg8 hj'))
theorem Gy{w w1:World}{a:Option Addr}{len cap:Nat}(h:Kd w a len)(x:Ext w w1):Src w.heap.size (w1.alloc (.cells #[.slice a len cap,.int .i64 0] 165)) w1.heap.size:=by
 obtain⟨h1,h2⟩:=h;refine⟨a,len,cap,0,Zjc _ _,x.size,h1,by omega,fun hl=>?_⟩;obtain⟨y,e,hy,hc⟩:=h2 hl;refine⟨y,e,hy,fun j hj=>?_⟩;obtain⟨z,hz,hi⟩:=hc j hj;exact⟨z,((x.alloc _).cell (by rw[add_block];exact hy)).trans hz,hi⟩
theorem Jh:(prog.info? 51).map (fun i=>(i.zero,i.size,i.bytes))=some (some (.agg #[.int .i64 0,.int .i64 0,.string ⟨#[]⟩,.int .i64 0]),4,40):=by kernel_rfl
theorem Eb:prog.underlying 25=some (.slice 51):=by kernel_rfl
theorem Ext.grownN{a w:World}(h:Ext a w):a.grownBy w none:=by
 have g:=h.chg (fun _=>False);exact⟨g.os,g.tape,g.output,g.size,fun k hk _=>h.block hk⟩
theorem K6{w w':World}{base:Nat}{e:TypeId}{size:Nat}{v:Value}{n:Nat}{xs:List Value}(h:w.ownsRow base e size v n xs)(x:Ext w w'):w'.ownsRow base e size v n xs :=
 h.kept x.grownN (Decidable.em _)
theorem lt_of_cell{w:World}{p:Addr}{v:Value}(h:w.cell? p=some v):p.block<w.heap.size:=by
 rcases Zis p.block w.heap.size with hlt|hge
 ·exact hlt
 simp[World.cell?,Zgw hge]at h
def J0(rs:List Rc):List Value:=rs.flatMap Rc.cells
theorem Zty(rs:List Rc):(J0 rs).length=rs.length*4:=by
 induction rs with
 | nil=>rfl
 | cons r rs ih=>simp[J0,Rc.cells]at ih⊢;omega
theorem Dr(rs:List Rc)(r:Rc):J0 (rs++[r])=J0 rs++r.cells:=by simp[J0]
theorem Zq0(rs:List Rc){k:Nat}(hk:k<rs.length)(j:Nat)(hj:j<4):(J0 rs)[k*4+j]?=(rs.getD k default).cells[j]?:=by
 induction rs generalizing k with
 | nil=>simp at hk
 | cons r rs ih =>
  have e:J0 (r::rs)=r.cells++J0 rs:=by simp[J0]
  rw[e];cases k with
  | zero=>rw[Ze (by simp[Rc.cells];omega)];simp
  | succ k =>
   rw[Zd (by simp[Rc.cells];omega)];have:=ih (k:=k) (by simpa using hk);have e2:(k+1)*4+j-r.cells.length=k*4+j:=by simp[Rc.cells];omega
   rw[e2,this];simp
theorem Ph(g n:Nat):(⟨g,0,none⟩:Addr).add n=⟨g,n,none⟩:=by
 unfold Addr.add;by_cases hn:n=0<;>simp[hn]
theorem Xb{w:World}{base:Nat}{e:TypeId}{size:Nat}{v:Value}{n:Nat}{xs:List Value}(h:w.ownsRow base e size v n xs):∃ a c,v=.slice a n c:=by
 obtain⟨_,⟨rfl,rfl⟩ | ⟨g,cap,_,rfl,_⟩⟩:=h
 ·exact⟨_,_,rfl⟩
 exact⟨_,_,rfl⟩
def Rd(w:World)(S:Nat→Prop)(z:Nat)(v:Value)(n:Nat)(xs:List Value):Prop :=
 xs.length=n*z∧∃ A c,v=.slice A n c∧n≤c∧c≤maxLen∧(0<n→∃ g o,A=some ⟨g,o,none⟩∧S g∧g<w.heap.size∧∀ j u,xs[j]?=some u→w.cell? ⟨g,o+j,none⟩=some u)
section
variable {w w':World} {S T:Nat→Prop} {z n:Nat} {v:Value} {xs:List Value}
theorem Rd.nil(w:World)(S:Nat→Prop)(z:Nat):Rd w S z (.slice none 0 0) 0 []:=⟨by simp,none,0,rfl,Yn _,Zjn _,fun h=>absurd h (by omega)⟩
theorem Rd.keep(h:Rd w S z v n xs)(hs:w.heap.size≤w'.heap.size)(hk:∀ k,S k→k<w.heap.size→w'.heap[k]?=w.heap[k]?):Rd w' S z v n xs:=by
 obtain⟨h1,A,c,rfl,h2,h3,h4⟩:=h;refine⟨h1,A,c,rfl,h2,h3,fun hn=>?_⟩;obtain⟨g,o,e,hS,hg,hc⟩:=h4 hn;exact⟨g,o,e,hS,Zk8 hg hs,fun j u hu=>(Zia (a:=⟨g,o+j,none⟩) (hk g hS hg)).trans (hc j u hu)⟩
theorem Rd.chg(h:Rd w S z v n xs)(c:Chg T w w')(hd:∀ k,S k→¬ T k):Rd w' S z v n xs:=h.keep c.size fun k hS hk=>c.block k hk (hd k hS)
theorem Rd.ext(h:Rd w S z v n xs)(x:Ext w w'):Rd w' S z v n xs:=h.keep x.size fun _ _ hk=>x.block hk
theorem Rd.drew(h:Rd w S z v n xs):Rd w.drew S z v n xs:=h
theorem Rd.mono(h:Rd w S z v n xs)(hST:∀ k,S k→k<w.heap.size→T k):Rd w T z v n xs:=by
 obtain⟨h1,A,c,rfl,h2,h3,h4⟩:=h;refine⟨h1,A,c,rfl,h2,h3,fun hn=>?_⟩;obtain⟨g,o,e,hS,hg,hc⟩:=h4 hn;exact⟨g,o,e,hST g hS hg,hg,hc⟩
theorem Rd.len(h:Rd w S z v n xs):n≤maxLen:=by
 obtain⟨_,A,c,_,h2,h3,_⟩:=h;omega
theorem Rd.at_(h:Rd w S z v n xs){k:Nat}(hk:k<n):∃ g o c,v=.slice (some ⟨g,o,none⟩) n c∧n≤c∧c≤maxLen∧S g∧g<w.heap.size∧∀ j u,xs[j]?=some u→w.cell? ⟨g,o+j,none⟩=some u:=by
 obtain⟨h1,A,c,rfl,h2,h3,h4⟩:=h;obtain⟨g,o,rfl,hS,hg,hc⟩:=h4 (by omega);exact⟨g,o,c,rfl,h2,h3,hS,hg,hc⟩
theorem Rd.of_own{base:Nat}{e:TypeId}(h:w.ownsRow base e z v n xs)(hS:∀ k,v.ownBlock=some k→S k):Rd w S z v n xs:=by
 have hc:=fun g hg=>h.cells (g:=g) hg
 have hl:=h.lt;obtain⟨hlen,⟨hv,h0⟩ | ⟨g,cap,cur,hv,_,hb,hn,hm,_⟩⟩:=h
 ·subst h0 hv;have hx:xs=[]:=Zjk (by simpa using hlen);subst hx;exact Rd.nil _ _ _
 refine⟨hlen,_,cap,hv,hn,hm,fun _=>⟨g,0,rfl,hS g (by rw[hv];rfl),(hl g (by rw[hv];rfl)).2,fun j u hu=>?_⟩⟩;have:=hc g (by rw[hv];rfl) j u hu;rw[Ph]at this;rw[Zjd];exact this
end
section
variable {P:Program} (w:World)
theorem Md(base:Nat)(t ty e:TypeId)(i:TypeInfo)(size:Nat)(ht:P.underlying t=some (.slice e))(hi:P.info? e=some i)
 (v:Value) (n:Nat) (xs:List Value) (hown:w.ownsRow base e size v n xs) (c:Nat):(Builtin.append_ #[t,t] ty #[v,.slice none 0 c]).run P w=.ok v w:=by
 rcases hown.2 with⟨rfl,rfl⟩ | ⟨g,cap,cur,rfl,_,_,hnc,_⟩
 ·simp[Builtin.append_,run_underlying ht,sizeOf,typeInfo,hi,Builtin.lenOf,Builtin.firstCells]
 simp[Builtin.append_,run_underlying ht,sizeOf,typeInfo,hi,Builtin.lenOf,Builtin.firstCells,hnc,storeCells]
structure Bg(w:World)(base:Nat)(e:TypeId)(size:Nat)(v:Value)(k:Nat)(ys:List Value)(v':Value)(w':World):Prop where
 own:w'.ownsRow base e size v' k ys
 grown:w.grownBy w' v.ownBlock
 at_:v'.ownBlock=v.ownBlock∨v'.ownBlock=some w.heap.size
theorem Rk(base:Nat)(t ty e:TypeId)(i:TypeInfo)(z:Value)(size bytes:Nat)(ht:P.underlying t=some (.slice e))(hi:P.info? e=some i)(hz:i.zero=some z)
 (hsize:i.size=size) (hby:i.bytes=bytes) (hzs:z.cells.size=size) (hsz:0<size)
 (v:Value) (n:Nat) (xs:List Value) (hown:w.ownsRow base e size v n xs)
 (S:Nat→Prop) (x:Value) (m:Nat) (news:List Value) (hr:Rd w S size x m news) (h1:∀ u∈news,u.oneCell'=true)
 (h63:n+m≤maxLen) (hbytes:(n+m)*bytes≤140737488355328) (hbase:base≤w.heap.size) :
 ∃ v' w',(Builtin.append_ #[t,t] ty #[v,x]).run P w=.ok v' w'∧Bg w base e size v (n+m) (xs++news) v' w':=by
 obtain⟨hlen,A,c,rfl,_,_,hcells⟩:=hr;rcases Zj4 m with h0|h0
 ·subst h0;have hn:news=[]:=Zjk (by simpa using hlen);subst hn;cases A with
  | none=>exact⟨v,w,Md w base t ty e i size ht hi v n xs hown c,by simpa using hown,World.grownBy.refl w _,.inl rfl⟩
  | some ad =>
   obtain⟨v',w',hrun,h2,h3,_,h5⟩:=run_append_own_at (P:=P) w base t ty e i z size bytes ht hi hz hsize hby hzs hsz v n xs hown ad 0 c [] (by simp) (by simp) h1 h63 hbytes hbase;exact⟨v',w',hrun,h2,h3,h5⟩
 obtain⟨g,o,rfl,_,_,hc⟩:=hcells h0;obtain⟨v',w',hrun,h2,h3,_,h5⟩:=run_append_own_at (P:=P) w base t ty e i z size bytes ht hi hz hsize hby hzs hsz v n xs hown ⟨g,o,none⟩ m c news hlen (fun j u hu=>by
  have e:(⟨g,o,none⟩:Addr).add j=⟨g,o+j,none⟩:=by unfold Addr.add;by_cases hj:j=0<;>simp[hj]
  rw[e];exact hc j u hu) h1 h63 hbytes hbase
 exact⟨v',w',hrun,h2,h3,h5⟩
theorem Ky{o:Oper}{a:Act}{K:Act→World→Prop}{Q:Exit→Act→World→Prop}(s y:Operand)(t:TypeId)
 (ho:o.op=.call {callee:=.builtin .append,args:=#[s,y],argTypes:=#[t,t]})
 (base:Nat) (e:TypeId) (i:TypeInfo) (z:Value) (size bytes:Nat) (ht:P.underlying t=some (.slice e)) (hi:P.info? e=some i) (hz:i.zero=some z)
 (hsize:i.size=size) (hby:i.bytes=bytes) (hzs:z.cells.size=size) (hsz:0<size)
 (v:Value) (n:Nat) (xs:List Value) (hs:a.eval s=v) (hown:w.ownsRow base e size v n xs)
 (S:Nat→Prop) (x:Value) (m:Nat) (news:List Value) (hx:a.eval y=x) (hr:Rd w S size x m news) (h1:∀ u∈news,u.oneCell'=true)
 (h63:n+m≤maxLen) (hbytes:(n+m)*bytes≤140737488355328) (hbase:base≤w.heap.size)
 (h:∀ v' w',Bg w base e size v (n+m) (xs++news) v' w'→K (a.put o.dst v') w'):o.wp P a w K Q:=by
 obtain⟨v',w',hrun,h2⟩:=Rk (P:=P) w base t o.type e i z size bytes ht hi hz hsize hby hzs hsz v n xs hown S x m news hr h1 h63 hbytes hbase;unfold Oper.wp execOp;simp only[ho,resolve,invoke,builtin,Zhs,Zhr,Zir,List.map_toArray,Zj0,Ziz,hs,hx,hrun];exact h v' w' h2
theorem V1{ops:Array Oper}{rest:List Oper}{o:Oper}{a:Act}{Q:Exit→Act→World→Prop}(hgd:o.guard=none)(s y:Operand)(t:TypeId)
 (ho:o.op=.call {callee:=.builtin .append,args:=#[s,y],argTypes:=#[t,t]})
 (base:Nat) (e:TypeId) (i:TypeInfo) (z:Value) (size bytes:Nat) (ht:P.underlying t=some (.slice e)) (hi:P.info? e=some i) (hz:i.zero=some z)
 (hsize:i.size=size) (hby:i.bytes=bytes) (hzs:z.cells.size=size) (hsz:0<size)
 (v:Value) (n:Nat) (xs:List Value) (hs:a.eval s=v) (hown:w.ownsRow base e size v n xs)
 (S:Nat→Prop) (x:Value) (m:Nat) (news:List Value) (hx:a.eval y=x) (hr:Rd w S size x m news) (h1:∀ u∈news,u.oneCell'=true)
 (h63:n+m≤maxLen) (hbytes:(n+m)*bytes≤140737488355328) (hbase:base≤w.heap.size)
 (h:∀ v' w',Bg w base e size v (n+m) (xs++news) v' w'→wpList P ops Q rest (a.put o.dst v') w'):wpList P ops Q (o::rest) a w :=
 Zgr hgd fun _ hK=>Ky w s y t ho base e i z size bytes ht hi hz hsize hby hzs hsz v n xs hs hown S x m news hx hr h1 h63 hbytes hbase fun v' w' h2=>hK _ _ (h v' w' h2)
theorem Kt{ops:Array Oper}{o:Oper}{a:Act}{K:Act→World→Prop}{Q:Exit→Act→World→Prop}{E:Prop}(hgd:o.guard=none)(s y:Operand)(t:TypeId)
 (ho:o.op=.call {callee:=.builtin .append,args:=#[s,y],argTypes:=#[t,t]})
 (base:Nat) (e:TypeId) (i:TypeInfo) (z:Value) (size bytes:Nat) (ht:P.underlying t=some (.slice e)) (hi:P.info? e=some i) (hz:i.zero=some z)
 (hsize:i.size=size) (hby:i.bytes=bytes) (hzs:z.cells.size=size) (hsz:0<size)
 (v:Value) (n:Nat) (xs:List Value) (hs:a.eval s=v) (hown:w.ownsRow base e size v n xs)
 (S:Nat→Prop) (x:Value) (m:Nat) (news:List Value) (hx:a.eval y=x) (hr:Rd w S size x m news) (h1:∀ u∈news,u.oneCell'=true)
 (h63:n+m≤maxLen) (hbytes:(n+m)*bytes≤140737488355328) (hbase:base≤w.heap.size)
 (h:∀ v' w',Bg w base e size v (n+m) (xs++news) v' w'→K (a.put o.dst v') w') :
 if Region.wanted o (yielded ops a.tmps)=true then Oper.wp P o a w K Q else E:=by
 have hw:Region.wanted o (yielded ops a.tmps)=true:=by simp[Region.wanted,hgd]
 rw[Zjx hw];exact Ky w s y t ho base e i z size bytes ht hi hz hsize hby hzs hsz v n xs hs hown S x m news hx hr h1 h63 hbytes hbase h
end
section
variable {P:Program} {ops:Array Oper} {Q:Exit→Act→World→Prop} {md:Region.Mode} {S:World→Prop}
def St(P:Program)(ops:Array Oper)(Q:Exit→Act→World→Prop)(z:Nat):Exit→Act→World→Prop
 | .normal,a,w=>wpOp P ops Q z (fun a' w'=>Q .normal a' w') a w
 | e,a,w=>Q e a w
theorem Zr0{z:Nat}{o:Oper}{a:Act}{w:World}{K:Act→World→Prop}(h:o.wp P a w K (St P ops Q z)):o.wp P a w K Q:=by
 unfold Oper.wp at *;generalize (execOp a.eval o).run P w=r at *;cases r with
 | ok n w' =>
  cases n<;>simp only[Oper.upon]at h⊢ <;>
   first
    | exact h
    | exact Zhx h (fun e w'' he=>by
     cases e with
     | returned v=>exact he
     | panicked c=>exact he
     | outgrown=>obtain⟨a,w,hq⟩:=he;exact⟨a,w,hq⟩)
    | exact Rows.mono h (fun _ _ he=>he)
 | halt x w'=>cases x<;>simp only[Oper.upon]at h⊢<;>exact h
theorem Zyy{z i:Nat}{a:Act}{w:World}{K:Act→World→Prop}(h:wpOp P ops (St P ops Q z) i K a w):wpOp P ops Q i K a w:=by
 unfold wpOp at *;split
 ·simpa[*]using h
 rename_i o ho;simp only[ho]at h;split
 ·rename_i hw;simp only[hw,Zfo]at h;rcases h with h | ⟨h1,a',w',h2⟩
  ·exact .inl (Zr0 h)
  exact .inr ⟨h1,a',w',h2⟩
 rename_i hw;simp only[hw]at h;exact h
theorem mem_ready{listed:Array Bool}{i:Nat}:i∈Region.ready md ops listed↔i<ops.size∧listed.getD i true=false∧∃ o,ops[i]?=some o∧∀ e∈o.after,Region.binds md e=true→listed.getD e.on false=true:=by
 unfold Region.ready;simp only[Zhh,Zj9,Zjg,Zig];constructor
 ·rintro⟨h1,h2,h3⟩;refine⟨h1,h2,ops[i],Zjt h1,?_⟩;rw[Zjt h1]at h3;simp only[Zil,Zhm,Zi1,Zhv,Zig]at h3;intro e he hb;rcases h3 e he with h|h
  ·rw[hb]at h;simp at h
  exact h
 rintro⟨h1,h2,o,ho,h3⟩;refine⟨h1,h2,?_⟩;rw[ho];simp only[Zil,Zhm,Zi1,Zhv,Zig];intro e he;cases hb:Region.binds md e with
 | false=>exact .inl rfl
 | true=>exact .inr (h3 e he hb)
theorem Jz{listed:Array Bool}{i j:Nat}{d:Bool}:(listed.setIfInBounds i true).getD j d=if i=j∧j<listed.size then true else listed.getD j d:=by
 simp only[Zjq,Zgn];by_cases h:i=j
 ·subst h;by_cases h2:i<listed.size<;>simp[h2]
 simp[h]
theorem Ss{z:Nat}{o:Oper}{a:Act}{w:World}(ho:ops[z]?=some o)(hw:Region.wanted o (yielded ops a.tmps)=true)(h:o.wp P a w (fun a' w'=>Q .normal a' w') Q):St P ops Q z .normal a w:=by
 show wpOp P ops Q z (fun a' w'=>Q .normal a' w') a w;unfold wpOp;rw[ho];simp only[hw,Zfo];exact .inl h
end
open Go.Maps (Tidy IsMap)
abbrev Kp:=ByteArray×Rc
def kb(k:ByteArray):List UInt8:=k.data.toList
theorem O9{a b:ByteArray}(h:kb a=kb b):a=b:=ByteArray.ext (Array.ext' h)
theorem Zoe{a b:ByteArray}(h:a≠b):kb a<kb b∨kb b<kb a:=by
 rcases List.le_total (kb a) (kb b)with h1|h1
 ·exact .inl (Bq h1 fun e=>h (O9 e))
 exact .inr (Bq h1 fun e=>h (O9 e).symm)
def Xg:List Kp→ByteArray→Rc
 | [],_=>default
 | p::l,k=>if p.1=k then p.2 else Xg l k
def Vv(k:ByteArray)(r:Rc):Bool→List Kp→List Kp
 | true,[]=>[]
 | false,[]=>[(k,r)]
 | d,p::l=>if p.1=k then Vv k r d l else if d=false∧kb k<kb p.1 then(k,r)::p::Vv k r true l else p::Vv k r d l
def Jt(l:List Kp)(k:ByteArray)(r:Rc):List Kp:=Vv k r (r.st==0) l
def Zxi(l:List Kp):Prop:=l.Pairwise (fun a b=>kb a.1<kb b.1)
theorem Vf{k:ByteArray}{r:Rc}{p:Kp}:∀ {l:List Kp} {d:Bool},p∈Vv k r d l↔(p∈l∧p.1≠k)∨(d=false∧p=(k,r))
 | [],true=>by simp[Vv]
 | [],false=>by simp[Vv]
 | q::l,d=>by
  rw[Vv];split
  ·rename_i hq;rw[Vf];constructor
   ·rintro(⟨h1,h2⟩|h)
    ·exact .inl ⟨Zhb _ h1,h2⟩
    exact .inr h
   rintro(⟨h1,h2⟩|h)
   ·rcases Zg.1 h1 with h1|h1
    ·subst h1;exact absurd hq h2
    exact .inl ⟨h1,h2⟩
   exact .inr h
  rename_i hq;split
  ·rename_i hd;simp only[Zg,Vf (d:=true),Bool.true_eq_false,false_and,Zin];constructor
   ·rintro(h|h | ⟨h1,h2⟩)
    ·exact .inr ⟨hd.1,h⟩
    ·subst h;exact .inl ⟨.inl rfl,hq⟩
    exact .inl ⟨.inr h1,h2⟩
   rintro(⟨h1|h1,h2⟩ | ⟨_,h⟩)
   ·exact .inr (.inl h1)
   ·exact .inr (.inr ⟨h1,h2⟩)
   exact .inl h
  simp only[Zg,Vf (d:=d)];constructor
  ·rintro(h | ⟨h1,h2⟩|h)
   ·subst h;exact .inl ⟨.inl rfl,hq⟩
   ·exact .inl ⟨.inr h1,h2⟩
   exact .inr h
  rintro(⟨h1|h1,h2⟩|h)
  ·exact .inl h1
  ·exact .inr (.inl ⟨h1,h2⟩)
  exact .inr (.inr h)
theorem Ko{k:ByteArray}{r:Rc}:∀ {l:List Kp} {d:Bool},Zxi l→Zxi (Vv k r d l)
 | [],true,_=>by simp[Vv,Zxi]
 | [],false,_=>by simp[Vv,Zxi]
 | q::l,d,h=>by
  obtain⟨h1,h2⟩:=Zj5.1 h;rw[Vv];split
  ·exact Ko h2
  rename_i hq;split
  ·rename_i hd;refine Zj5.2 ⟨fun p hp=>?_,Zj5.2 ⟨fun p hp=>?_,Ko h2⟩⟩
   ·rcases Zg.1 hp with hp|hp
    ·subst hp;exact hd.2
    rcases Vf.1 hp with⟨hp,_⟩ | ⟨hf,_⟩
    ·exact Zh7 hd.2 (h1 p hp)
    simp at hf
   rcases Vf.1 hp with⟨hp,_⟩ | ⟨hf,_⟩
   ·exact h1 p hp
   simp at hf
  rename_i hd;refine Zj5.2 ⟨fun p hp=>?_,Ko h2⟩;rcases Vf.1 hp with⟨hp,_⟩ | ⟨hf,hp⟩
  ·exact h1 p hp
  subst hp;rcases Zoe hq with hl|hl
  ·exact hl
  exact absurd ⟨hf,hl⟩ hd
theorem Qo{k:ByteArray}{r:Rc}:∀ {l:List Kp} {d:Bool},Xg (Vv k r d l) k=if d then default else r
 | [],true=>by simp[Vv,Xg]
 | [],false=>by simp[Vv,Xg]
 | q::l,d=>by
  rw[Vv];split
  ·exact Qo
  rename_i hq;split
  ·rename_i hd;simp[Xg,hd.1]
  rw[Xg,Zk9 hq];exact Qo
theorem Vg{k k':ByteArray}{r:Rc}(hne:k'≠k):∀ {l:List Kp} {d:Bool},Xg (Vv k r d l) k'=Xg l k'
 | [],true=>by simp[Vv,Xg]
 | [],false=>by simp[Vv,Xg,Ne.symm hne]
 | q::l,d=>by
  rw[Vv];split
  ·rename_i hq;rw[Vg hne,Xg,Zk9 (by rw[hq];exact fun e=>hne e.symm)]
  rename_i hq;split
  ·rw[Xg,Zk9 (fun e=>hne e.symm),Xg,Xg];split
   ·rfl
   exact Vg hne
  rw[Xg,Xg];split
  ·rfl
  exact Vg hne
theorem Ep{k:ByteArray}{r:Rc}:∀ {l:List Kp} {d:Bool},Zxi l→(Vv k r d l).length+(if ∃ p∈l,p.1=k then 1 else 0)=l.length+(if d then 0 else 1)
 | [],true,_=>by simp[Vv]
 | [],false,_=>by simp[Vv]
 | q::l,d,h=>by
  obtain⟨h1,h2⟩:=Zj5.1 h;have ih:=fun d=>Ep (k:=k) (r:=r) (d:=d) h2
  rw[Vv];split
  ·rename_i hq;have hno:¬ ∃ p∈l,p.1=k:=by
    rintro⟨p,hp,e⟩;have:=h1 p hp;rw[e,hq]at this;exact Zhz _ this
   have:=ih d;rw[Zk9 hno]at this;rw[Zjx ⟨q,by simp,hq⟩];simp only[Zl];omega
  rename_i hq;have hiff:(∃ p∈q::l,p.1=k)↔∃ p∈l,p.1=k:=by simp[hq]
  split
  ·rename_i hd;have:=ih true;simp only[hiff,Zl,hd.1]at *;simp at this⊢;omega
  have:=ih d;simp only[hiff,Zl]at *;omega
def rcD(r:Rc):DataW Unit:=.agg [.lit (.int .i64 r.st),.lit (.int .i64 r.ow),.lit (.string r.nm.data.toList),.lit (.int .i64 r.dl)]
theorem Zm7{a b:Rc}(h:rcD a=rcD b):a=b:=by
 obtain⟨a1,a2,a3,a4⟩:=a;obtain⟨b1,b2,b3,b4⟩:=b;simp only[rcD,DataW.agg.injEq,Zfx,DataW.lit.injEq,Lit.int.injEq,Lit.string.injEq,Zjj,Zj6]at h;obtain⟨h1,h2,h3,h4⟩:=h;have:=O9 h3;subst h1 h2 this h4;rfl
theorem Zzx(k:ByteArray):WideAt.IsKeyLit (.string (kb k)):=by simp[WideAt.IsKeyLit]
structure Ni(D:DataW Unit)(l:List Kp):Prop where
 tidy:Tidy D
 asc:Zxi l
 get:∀ k,D.atKey (.string (kb k)) (rcD default)=rcD (Xg l k)
 has:∀ k,Maps.has D (.string (kb k))=true↔∃ p∈l,p.1=k
 size:Maps.size D=l.length
theorem Ni.empty:Ni (.map []) []:=⟨Zfw,List.Pairwise.nil,fun _=>rfl,fun k=>by simp[Maps.has],rfl⟩
theorem Zyd{k k':ByteArray}(h:k'≠k):(Lit.string (kb k'))≠.string (kb k):=fun e=>by
 simp only[Lit.string.injEq]at e;exact h (O9 e)
theorem Ni.put{D:DataW Unit}{l:List Kp}(h:Ni D l)(k:ByteArray)(r:Rc)(hr:r.st≠0):Ni (D.put (.string (kb k)) (rcD r)) (Jt l k r):=by
 have hd:(r.st==0)=false:=by simpa using hr
 unfold Jt;rw[hd];have hm:=h.tidy.isMap;refine⟨h.tidy.put (Zzx k) _,Ko h.asc,fun k'=>?_,fun k'=>?_,?_⟩
 ·by_cases hk:k'=k
  ·subst hk;rw[Maps.atKey_put_same hm (Zzx k'),Qo];simp
  rw[Maps.atKey_put_other (Zyd hk),h.get,Vg hk]
 ·by_cases hk:k'=k
  ·subst hk;rw[Maps.has_put_same hm (Zzx k')];simp only[true_iff];exact⟨(k',r),Vf.2 (.inr ⟨rfl,rfl⟩),rfl⟩
  rw[Zgg (Zyd hk),h.has];constructor
  ·rintro⟨p,hp,e⟩;exact⟨p,Vf.2 (.inl ⟨hp,by rw[e];exact hk⟩),e⟩
  rintro⟨p,hp,e⟩;rcases Vf.1 hp with⟨hp,_⟩ | ⟨_,hp⟩
  ·exact⟨p,hp,e⟩
  subst hp;exact absurd e.symm hk
 rw[Maps.size_put h.tidy,h.size];have:=Ep (k:=k) (r:=r) (d:=false) h.asc;have hh:=h.has k;cases hb:Maps.has D (.string (kb k))with
 | true=>rw[Zjx (hh.1 hb)]at this;simp at this⊢;omega
 | false=>rw[Zk9 (fun e=>by rw[hh.2 e]at hb;simp at hb)]at this;simp at this⊢;omega
theorem Ni.del{D:DataW Unit}{l:List Kp}(h:Ni D l)(k:ByteArray)(r:Rc)(hr:r.st=0):Ni (D.del (.string (kb k))) (Jt l k r):=by
 have hd:(r.st==0)=true:=by simpa using hr
 unfold Jt;rw[hd];refine⟨h.tidy.del _,Ko h.asc,fun k'=>?_,fun k'=>?_,?_⟩
 ·by_cases hk:k'=k
  ·subst hk;rw[Maps.atKey_del_same,Qo];simp
  rw[Maps.atKey_del_other (Zyd hk),h.get,Vg hk]
 ·by_cases hk:k'=k
  ·subst hk;rw[Maps.has_del_same];simp only[Bool.false_eq_true,false_iff];rintro⟨p,hp,e⟩;rcases Vf.1 hp with⟨_,hp⟩ | ⟨hf,_⟩
   ·exact hp e
   simp at hf
  rw[Maps.has_del_other (Zyd hk),h.has];constructor
  ·rintro⟨p,hp,e⟩;exact⟨p,Vf.2 (.inl ⟨hp,by rw[e];exact hk⟩),e⟩
  rintro⟨p,hp,e⟩;rcases Vf.1 hp with⟨hp,_⟩ | ⟨_,hp⟩
  ·exact⟨p,hp,e⟩
  subst hp;exact absurd e.symm hk
 have hs:=Maps.size_del (k:=.string (kb k)) h.tidy;have:=Ep (k:=k) (r:=r) (d:=true) h.asc;have hh:=h.has k;rw[h.size]at hs;cases hb:Maps.has D (.string (kb k))with
 | true=>rw[Zjx (hh.1 hb)]at this;rw[hb]at hs;simp at this hs⊢;omega
 | false=>rw[Zk9 (fun e=>by rw[hh.2 e]at hb;simp at hb)]at this;rw[hb]at hs;simp at this hs⊢;omega
theorem Eh{a b:Bool}(h:a=b):Ending.returned (.bool a)=.returned (.bool b):=by rw[h]
theorem Et:(prog.info? 9).map (fun i=>(i.zero,i.size,i.bytes))=some (some (.string ⟨#[]⟩),1,16):=by kernel_rfl
theorem Zoq:prog.underlying 24=some (.slice 9):=by kernel_rfl
theorem Yg{p:Prop}[Decidable p](h:¬ p:=by omega):decide p=false:=decide_eq_false h
theorem Yf{p:Prop}[Decidable p](h:p:=by omega):decide p=true:=decide_eq_true h
theorem Ye(a:Option Addr)(b c:Nat)(a2:Option Addr)(b2 c2:Nat):(Value.slice a b c=Value.slice a2 b2 c2)=(a=a2∧b=b2∧c=c2):=Value.slice.injEq a b c a2 b2 c2
theorem Yd{A:Type _}(a b:A):(some a=some b)=(a=b):=Option.some.injEq a b
theorem Yc:(Value.tuple #[]:Value)=undef:=rfl
theorem Yb:(undef:Value)=.tuple #[]:=rfl
theorem xE{w w':World}(h:Ext w w':=by repeat'(first|exact Ext.refl _|assumption|apply Ext.alloc|apply Ext.drewN|apply Ext.drew|(refine Ext.trans ?_ (by assumption)))):Ext w w':=h
end
def Yl:=@Ext.refl
def Yk:=@Ext.alloc
def Yj:=@Ext.drewN
def Yi:=@Ext.drew
def Yh:=@Ext.trans
