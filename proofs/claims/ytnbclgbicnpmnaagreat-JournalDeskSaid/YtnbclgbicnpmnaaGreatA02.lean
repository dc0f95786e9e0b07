/- Lemmas of this claim: Ground. Conditions: as named. -/
import Derived.BigQuiet
import Derived.Deep.DeepCutAuto
import Derived.Deep.QuietTactic
import Derived.Deep.RegionHeld3
import Derived.Laws.IdiomStrings
import Derived.Lib.Hide
import Derived.Maps.AppendAt
import Derived.Maps.OwnSet
import Derived.OwnWalk
import Derived.RegionTactic
import Derived.Sort.Grow
import Derived.Test.YtnbclgbicnpmnaaGreatProg
import Derived.WalkKit
import Derived.WalkLawsBesides
import Derived.WalkSpells
namespace Go.Proofs.YtnbclgbicnpmnaaGreat
open Go.RowKit Go.Sort Tryz
set_option maxHeartbeats 0
set_option maxRecDepth 100000
set_option linter.all false
def Zz:=@List.getElem?_eq_getElem
def Zy:=@List.mem_of_getElem?
def Zx:=@List.getElem?_cons_zero
def Zw:=@List.getElem?_cons_succ
def Zv:=@List.setIfInBounds_toArray
def Zu:=@List.set_cons_zero
def Zt:=@List.set_cons_succ
def Zs:=@List.length_append
def Zr:=@List.getElem?_eq_some_iff
def Zq:=@List.length_map
def Zp:=@List.length_take
def Zo:=@List.nil_append
def Zn:=@List.getElem?_map
def Zm:=@List.take_of_length_le
def Zl:=@List.length_cons
def Zk:=@List.length_nil
def Zj:=@List.mem_append
def Zi:=@List.mem_singleton
def Zh:=@List.not_mem_nil
def Zg:=@List.mem_cons
def Zf:=@List.length_set
def Ze:=@List.getElem?_append_left
def Zd:=@List.getElem?_append_right
def Zc:=@List.getElem?_set_self
def Zb:=@List.getElem?_set_ne
def Za:=@List.take_add_one
def Z2:=@List.length_replicate
def Z3:=@List.filterMap_cons
def Z4:=@List.filterMap_nil
def Z5:=@List.getElem?_toArray
def Z6:=@List.drop_succ_cons
def Z7:=@List.drop_zero
def Z8:=@List.take_succ_cons
def Z9:=@List.take_zero
def Yz:=@List.length_drop
def Yy:=@List.map_append
def Yx:=@List.getElem?_drop
def Yw:=@List.getElem?_take
def Yv:=@List.getElem?_set
def Yu:=@Go.wpQuiet_step
def Yt:=@Go.wpQuiet_nil
def Ys:=@Go.bodyPost_ret
def Yr:=@AllReadyH.cons
def Yq:=@AllReadyH.nil
def Yp:=@IntWalk.i64_in
def Yo:=@Classical.choose_spec
def Ym:=@Nat.le_refl
def Yl:=@_root_.ByteArray.size_append
def Zgq:=@if_neg
def Zgp:=@Nat.lt_of_lt_of_le
def Zgo:=@Nat.le_trans
def Zgn:=@if_pos
def Zgm:=@Option.some.inj
def Zgl:=@Go.info_parts
def Zgk:=@Array.getElem?_eq_some_iff
def Zgj:=@Array.getElem?_eq_getElem
def Zgi:=@Nat.mul_le_mul_right
def Zgh:=@decide_eq_true_eq
def Zgg:=@List.mem_map
def Zgf:=@Nat.zero_le
def Zge:=@Array.getD_eq_getD_getElem?
def Zgd:=@List.getElem?_of_mem
def Zgc:=@Bool.and_eq_true
def Zgb:=@List.eq_nil_of_length_eq_zero
def Zga:=@Go.Addr.mk.injEq
def Zg0:=@true_and
def Zg1:=@decide_eq_false_iff_not
def Zg2:=@Go.ByteArray.toList_eq
def Zg3:=@Go.heap_alloc_new
def Zg4:=@List.map_cons
def Zg5:=@List.pairwise_cons
def Zg6:=@List.nodup_cons
def Zg7:=@Nat.zero_add
def Zg8:=@Go.wp_region_held_drew
def Zg9:=@Option.map_eq_some_iff
def Zfz:=@List.pairwise_iff_getElem
def Zfy:=@Go.Lib.hid
def Zfx:=@of_decide_eq_false
def Zfw:=@and_true
def Zfv:=@List.map_nil
def Zfu:=@Nat.add_zero
def Zft:=@ByteArray.size_extract
def Zfs:=@Nat.eq_zero_or_pos
def Zfr:=@List.getD_eq_getElem?_getD
def Zfq:=@List.lt_irrefl
def Zfp:=@of_decide_eq_true
def Zfo:=@Classical.byContradiction
def Zfn:=@Int.le_refl
def Zfm:=@Bool.eq_false_or_eq_true
def Zfl:=@List.all_eq_true
def Zfk:=@Prod.mk.injEq
def Zfj:=@Go.World.ownsRow_nil
def Zfi:=@or_false
def Zfh:=@Nat.add_assoc
def Zfg:=@Nat.le_succ
def Zff:=@Nat.lt_or_ge
def Zfe:=@List.length_singleton
def Zfd:=@Bool.eq_iff_iff
def Zfc:=@Go.World.cell?_of_block
def Zfb:=@Go.IntKind.wrap_i64
def Zfa:=@Array.all_eq_true_iff_forall_mem
def Zf0:=@List.drop_of_length_le
def Zf1:=@Nat.lt_trichotomy
def Zf2:=@List.mem_or_eq_of_mem_set
def Zf3:=@List.eq_nil_iff_forall_not_mem
def Zf4:=@List.append_nil
def Zf5:=@Nat.add_mul
def Zf6:=@Nat.pow_le_pow_right
def Zf7:=@Go.IntWalk.u8_in
def Zf8:=@List.mem_range
def Zf9:=@Go.Sort.permIn_trans
def Zez:=@List.map_map
def Zey:=@List.map_set
def Zex:=@Bool.not_eq_true'
def Zew:=@Int.toNat_of_nonneg
def Zev:=@Option.map_some
def Zeu:=@Go.wpList_store_mid
def Zet:=@List.lt_trans
def Zes:=@Array.getElem?_modify
def Zer:=@Go.World.frozen?_setCell
def Zeq:=@Nat.lt_or_eq_of_le
def Zep:=@List.drop_eq_getElem_cons
def Zeo:=@List.extract_eq_take_drop
def Zen:=@Go.wpAnyH_take
def Zem:=@Nat.one_mul
def Zel:=@List.mem_cons_of_mem
def Zek:=@List.append_assoc
def Zej:=@Int.toNat_natCast
def Zei:=@Bool.or_eq_true
def Zeh:=@Option.isSome_iff_exists
def Zeg:=@List.foldl_append
def Zef:=@Nat.min_eq_left
def Zee:=@Go.Sort.permIn_refl
def Zed:=@Option.getD_some
def Zec:=@Nat.min_eq_right
def Zeb:=@List.countP_cons
def Zea:=@ByteArray.data_extract
def Ze0:=@Bool.false_eq_true
def Ze1:=@List.filter_append
def Ze2:=@Option.toList_some
def Ze3:=@List.mem_filter
def Ze4:=@List.take_sublist_take_left
def Ze5:=@Nat.lt_succ_iff
def Ze6:=@Go.Result.andThen_ok
def Ze7:=@List.flatMap_cons
def Ze8:=@Array.getElem?_append_left
def Ze9:=@Array.toList_extract
def Zdz:=@List.mem_iff_getElem
def Zdy:=@List.getLast?_eq_getElem?
def Zdx:=@List.any_eq_true
def Zdw:=@Array.length_toList
def Zdv:=@List.length_pos_iff
def Zdu:=@Nat.mul_comm
def Zdt:=@List.set_set
def Zds:=@Go.RowKit.Below.heap_setCell
def Zdr:=@ByteArray.getElem_eq_getElem_data
def Zdq:=@Nat.add_sub_cancel
def Zdp:=@List.set_eq_take_append_cons_drop
def Zdo:=@List.mem_cons_self
def Zdn:=@List.range_succ
def Zdm:=@Array.getElem?_eq_none
def Zdl:=@Option.some.injEq
def Zdk:=@List.length_range
def Zdj:=@Function.comp_def
def Zdi:=@List.ext_getElem?
def Zdh:=@List.Sublist.refl
def Zdg:=@List.take_sublist
def Zdf:=@Nat.mul_le_mul
def Zde:=@Nat.ne_of_lt
def Zdd:=@Go.wpList_plain
def Zdc:=@List.take_append_drop
def Zdb:=@List.length_filter_le
def Zda:=@getElem!_pos
def Zd0:=@List.cons_append
def Zd1:=@Bool.not_eq_true
def Zd2:=@ByteArray.ext
def Zd3:=@Array.getElem?_setIfInBounds
def Zd4:=@List.mergeSort_perm
def Zd5:=@beq_eq_false_iff_ne
def Zd6:=@List.set_append
def Zd7:=@List.foldl_cons
def Zd8:=@Go.all_oneCell_toArray
def Zd9:=@Nat.div_le_self
def Zcz:=@Go.World.rangeAt_setCells_same
def Zcy:=@Nat.pow_succ
def Zcx:=@Go.Sem.run_bind
def Zcw:=@Go.Sem.run_pure
def Zcv:=@Array.any_eq_true'
def Zcu:=@List.countP_append
def Zct:=@Option.toList_none
def Zcs:=@List.drop_left
def Zcr:=@List.drop_drop
def Zcq:=@List.getLastD_eq_getLast?
def Zcp:=@Array.size_append
def Zco:=@List.pairwise_map
def Zcn:=@List.eq_of_mem_replicate
def Zcm:=@List.sublist_append_left
def Zcl:=@List.pairwise_mergeSort
def Zck:=@Nat.mul_one
def Zcj:=@Go.Sort.permIn_mono
def Zci:=@List.getElem_mem
def Zch:=@Go.IntKind.wrap_u64
def Zcg:=@List.getElem_map
def Zcf:=@Option.bind_some
def Zce:=@List.ext_getElem
def Zcd:=@Go.wpOp_mono
def Zcc:=@Int.natCast_mul
def Zcb:=@Nat.zero_mul
def Zca:=@Nat.mod_lt
def Zc0:=@beq_iff_eq
def Zc1:=@Go.Calls.mono
def Zc2:=@if_false
def Zc3:=@Go.Sort.permIn_all
def Zc4:=@Int.mul_le_mul
def Zc5:=@dif_pos
def Zc6:=@if_true
def Zc7:=@Nat.mul_assoc
def Zc8:=@Bool.false_or
def Zc9:=@Array.ext'
def Zbz:=@Prod.ext
def Zby:=@not_or
section
def Y4(p:Prop):Prop:=p
theorem Y4.o{p:Prop}(h:Y4 p):p:=h
theorem Y8{p:Prop}(h:p):Y4 p:=h
theorem gnX{A:Sort _}(x:A):∃ y,x=y:=⟨x,rfl⟩
theorem geX{A:Type _}{l:List A}{i:Nat}(h:i<l.length):∃ s,l[i]?=some s:=⟨l[i],Zz h⟩
theorem LTl(i n:Nat)(h:i<n:=by omega):decide ((i:Int)<(n:Int))=true∧(0:Int)≤i∧(i:Int)<n:=⟨by simpa using h,by omega,by omega⟩
theorem LTd(i n:Nat)(h:i<n:=by omega):decide ((i:Int)<(n:Int))=true:=by simpa using h
theorem GEl(i n:Nat)(h:¬ i<n:=by omega):decide ((i:Int)<(n:Int))=false:=by simpa using h
def later(w:World)(d:Nat)(os:Array Obj):World:={heap:=w.heap++os,tape:=w.tape,drawn:=d,os:=w.os,output:=w.output}
theorem Ng(w:World)(d d':Nat)(os os':Array Obj):later (later w d os) d' os'=later w d' (os++os'):=by simp[later,Array.append_assoc]
theorem Ut(w:World)(d:Nat):later w d #[]={w with drawn:=d}:=by simp[later]
theorem Zuu(w:World)(d:Nat)(os:Array Obj):(later w d os).heap.size=w.heap.size+os.size:=by simp[later]
theorem Nh(w:World)(d:Nat)(os:Array Obj){k:Nat}(h:k<w.heap.size):(later w d os).heap[k]?=w.heap[k]?:=by simp[later,Array.getElem?_append,h]
def Ext(w w':World):Prop:=∃ (d:Nat) (os:Array Obj),w'=later w d os
theorem Ext.refl(w:World):Ext w w:=⟨w.drawn,#[],by rw[Ut]⟩
theorem Ext.trans{a b c:World}(h:Ext a b)(k:Ext b c):Ext a c:=by
 obtain⟨n,os,rfl⟩:=h;obtain⟨m,os',rfl⟩:=k;exact⟨m,os++os',Ng _ _ _ _ _⟩
theorem Ext.drew{a w:World}(h:Ext a w):Ext a w.drew:=h.trans ⟨w.drawn+1,#[],by rw[Ut];rfl⟩
theorem Ext.drewN{a w:World}(h:Ext a w)(n:Nat):Ext a (w.drewN n):=h.trans ⟨w.drawn+n,#[],by rw[Ut];rfl⟩
theorem Ext.alloc{a w:World}(h:Ext a w)(o:Obj):Ext a (w.alloc o):=h.trans ⟨w.drawn,#[o],by unfold World.alloc later;rw[Array.append_singleton]⟩
theorem Ext.size{a w:World}(h:Ext a w):a.heap.size≤w.heap.size:=by
 obtain⟨n,os,rfl⟩:=h;rw[Zuu];omega
theorem Ext.block{a w:World}(h:Ext a w){k:Nat}(hk:k<a.heap.size):w.heap[k]?=a.heap[k]?:=by
 obtain⟨n,os,rfl⟩:=h;exact Nh _ _ _ hk
theorem Ext.below{a w:World}(h:Ext a w):Below a.heap.size a w:=by
 have hs:=h.size;have hb:∀ k,k<a.heap.size→w.heap[k]?=a.heap[k]?:=fun k hk=>h.block hk
 obtain⟨n,os,rfl⟩:=h;exact⟨rfl,rfl,rfl,hs,hb⟩
theorem Ext.cell{a w:World}(h:Ext a w){p:Addr}(hp:p.block<a.heap.size):w.cell? p=a.cell? p:=h.below.cell hp
theorem Ext.frozen{a w:World}(h:Ext a w){p:Addr}(hp:p.block<a.heap.size):w.frozen? p=a.frozen? p:=h.below.frozen hp
structure Chg(S:Nat→Prop)(w w':World):Prop where
 os:w'.os=w.os
 tape:w'.tape=w.tape
 output:w'.output=w.output
 size:w.heap.size≤w'.heap.size
 block:∀ k,k<w.heap.size→¬ S k→w'.heap[k]?=w.heap[k]?
theorem Chg.refl(S:Nat→Prop)(w:World):Chg S w w:=⟨rfl,rfl,rfl,Ym _,fun _ _ _=>rfl⟩
theorem Chg.trans{S:Nat→Prop}{a b c:World}(h:Chg S a b)(k:Chg S b c):Chg S a c :=
 ⟨k.os.trans h.os,k.tape.trans h.tape,k.output.trans h.output,Zgo h.size k.size,fun i hi hS=>(k.block i (Zgp hi h.size) hS).trans (h.block i hi hS)⟩
theorem Chg.mono{S T:Nat→Prop}{a b:World}(h:Chg S a b)(hST:∀ k,k<a.heap.size→S k→T k):Chg T a b :=
 ⟨h.os,h.tape,h.output,h.size,fun i hi hT=>h.block i hi fun hS=>hT (hST i hi hS)⟩
theorem Chg.drew{S:Nat→Prop}{a w:World}(h:Chg S a w):Chg S a w.drew:=h.trans ⟨rfl,rfl,rfl,Ym _,fun _ _ _=>rfl⟩
theorem Chg.drewN{S:Nat→Prop}{a w:World}(h:Chg S a w)(n:Nat):Chg S a (w.drewN n):=h.trans ⟨rfl,rfl,rfl,Ym _,fun _ _ _=>rfl⟩
theorem Chg.alloc{S:Nat→Prop}{a w:World}(h:Chg S a w)(o:Obj):Chg S a (w.alloc o) :=
 h.trans ⟨rfl,rfl,rfl,by simp,fun k hk _=>Below.heap_alloc w o k hk⟩
theorem Chg.setCell{S:Nat→Prop}{a w:World}(h:Chg S a w){p:Addr}(hp:S p.block∨a.heap.size≤p.block)(u:Value):Chg S a (w.setCell p u):=by
 refine⟨h.os,h.tape,h.output,by simpa[World.setCell]using h.size,fun k hk hS=>?_⟩;rw[Zds w p u k (by rintro rfl;rcases hp with hp|hp;exact hS hp;omega)];exact h.block k hk hS
theorem Chg.grown{S:Nat→Prop}{a w w':World}{row:Option Nat}(h:Chg S a w)(g:w.grownBy w' row)(hr:∀ k,row=some k→S k∨a.heap.size≤k):Chg S a w':=by
 refine⟨g.os.trans h.os,g.tape.trans h.tape,g.output.trans h.output,Zgo h.size g.size,fun k hk hS=>?_⟩;rw[g.block k (Zgp hk h.size) (fun e=>by rcases hr k e.symm with h1|h1;exact hS h1;omega)];exact h.block k hk hS
theorem Chg.cell{S:Nat→Prop}{a w:World}(h:Chg S a w){p:Addr}(hp:p.block<a.heap.size)(hS:¬ S p.block):w.cell? p=a.cell? p:=Zfc (h.block p.block hp hS)
theorem Chg.frozen{S:Nat→Prop}{a w:World}(h:Chg S a w){p:Addr}(hp:p.block<a.heap.size)(hS:¬ S p.block):w.frozen? p=a.frozen? p:=World.frozen?_of_block (h.block p.block hp hS)
theorem Ext.chg{a w:World}(h:Ext a w)(S:Nat→Prop):Chg S a w:=by
 have hs:=h.size;have hb:∀ k,k<a.heap.size→¬ S k→w.heap[k]?=a.heap[k]?:=fun k hk _=>h.block hk
 obtain⟨n,os,rfl⟩:=h;exact⟨rfl,rfl,rfl,hs,hb⟩
theorem Ext.of_chg{a w:World}(h:Chg (fun _=>False) a w):Ext a w:=by
 refine⟨w.drawn,w.heap.extract a.heap.size,?_⟩;obtain⟨h1,h2,h3,h5,h6⟩:=h;cases w with
 | mk heap tape drawn os output =>
  simp only at h1 h2 h3 h5 h6;subst h1 h2 h3;have hh:heap=a.heap++heap.extract a.heap.size:=by
   apply Array.ext_getElem?;intro i;rw[Array.getElem?_append];by_cases hi:i<a.heap.size
   ·rw[Zgn hi];exact h6 i hi (fun h=>h)
   rw[Zgq hi,Array.getElem?_extract];split
   ·congr 1;omega
   rename_i hx;simp only[Array.getElem?_eq_none_iff];simp at hx;omega
  unfold later;simp only[World.mk.injEq];refine⟨hh,?_,?_,?_,?_⟩<;>trivial
theorem Ext.chg_new{S:Nat→Prop}{a b c:World}(h:Ext a b)(k:Chg S b c)(hS:∀ i,S i→a.heap.size≤i):Ext a c:=by
 have g:=h.chg (fun _=>False);exact Ext.of_chg ⟨k.os.trans g.os,k.tape.trans g.tape,k.output.trans g.output,Zgo g.size k.size,
  fun i hi _=>(k.block i (Zgp hi g.size) (fun hi'=>absurd (hS i hi') (by omega))).trans (h.block hi)⟩
theorem Y0{a w:World}(h:Ext a w){p:Addr}(hp:a.heap.size≤p.block)(u:Value):Ext a (w.setCell p u) :=
 Ext.of_chg ((h.chg _).setCell (.inr hp) u)
theorem Ext.grown{a w w':World}{row:Option Nat}(h:Ext a w)(g:w.grownBy w' row)(hr:∀ k,row=some k→a.heap.size≤k):Ext a w' :=
 Ext.of_chg ((h.chg _).grown g fun k hk=>.inr (hr k hk))
def I64(n:Int):Prop:=-9223372036854775808≤n∧n≤9223372036854775807
theorem Zrb{n:Int}(h:(Lit.int .i64 n).wf=true):I64 n:=by
 simp[Lit.wf,IntKind.min,IntKind.max,IntKind.signed,IntKind.bits]at h;unfold I64;omega
def IsRow(k:IntKind)(w:World)(a:Option Addr)(len cap:Nat)(zs:List Int):Prop :=
 (a=none∧len=0∧cap=0∧zs=[]) ∨
 ∃ x,a=some x∧len≤cap∧cap≤maxLen∧zs.length=cap∧(∀ i,i<zs.length→w.cell? (x.add i)=some (.int k (zs.getD i 0)))∧∀ n∈zs,(Lit.int k n).wf=true
structure Vt where
 n:Nat
 os:Array Obj
instance:Inhabited Vt:=⟨⟨0,#[]⟩⟩
theorem Xz{P:Program}{id:Nat}{Q:Exit→Act→World→Prop}{a:Act}{w:World}{l:List Oper}(hm:P.follows .mixedOrders=true)(hB:Region.lexB .any l.toArray=true)
 (h:wpQuiet P l.toArray (fun w'=>∃ p:Vt,w'=later w p.n p.os) (fun a'=>∀ w',Ext w w'→Q .normal a' w') l a):(Code.region id l.toArray true).wp P Q a w :=
 wp_region_quiet (C:=fun w'=>∃ p:Vt,w'=later w p.n p.os) hm hB ⟨⟨w.drawn+1,#[]⟩,by rw[Ut]⟩ (by
  have e:(fun a'=>∀ w',Ext w w'→Q .normal a' w')=(fun a'=>∀ w',(∃ p:Vt,w'=later w p.n p.os)→Q .normal a' w'):=by
   funext a';apply propext;constructor
   ·rintro h w' ⟨⟨n,os⟩,rfl⟩;exact h _ ⟨n,os,rfl⟩
   rintro h w' ⟨n,os,rfl⟩;exact h _ ⟨⟨n,os⟩,rfl⟩
  rw[e]at h;simpa using h)
theorem J6(w:World)(n:Nat)(os:Array Obj)(b o:Nat)(h:b<w.heap.size):(later w n os).cell? ⟨b,o,none⟩=w.cell? ⟨b,o,none⟩ :=
 Zfc (Nh w n os h)
theorem Xx{P:Program}{f:FuncId}{args:Array Value}{w:World}{n:Nat}{os:Array Obj}{v:Value}
 (h:Calls P f args (later w n os) fun e w'=>e=.returned v∧Ext (later w n os) w'):Calls P f args (later w n os) fun e w''=>e=.returned v∧∃ p:Vt,w''=later w p.n p.os :=
 h.mono fun _ _ ⟨he,q,os',hq⟩=>⟨he,⟨q,os++os'⟩,by rw[hq];exact Ng _ _ _ _ _⟩
theorem Xq{P:Program}{f:FuncId}{args:Array Value}{w:World}{n:Nat}{os:Array Obj}{v:Value}
 (h:Calls P f args (later w n os) fun e w'=>e=.returned v∧later w n os=w'):Calls P f args (later w n os) fun e w''=>e=.returned v∧∃ p:Vt,w''=later w p.n p.os :=
 h.mono fun _ _ ⟨he,hw⟩=>⟨he,⟨n,os⟩,hw.symm⟩
def Eg(n:Int):Bool:=decide (0≤n)&&decide (n≤1073741824)
theorem Jl{n:Int}(h:0≤n∧n≤1073741824):Eg n=true:=by simp[Eg,h.1,h.2]
theorem Pz{n:Int}(h:n<0∨1073741824<n):Eg n=false:=by simp[Eg];omega
theorem Aw(n:Int)(w:World):Calls prog 173 #[.int .i64 n] w fun e w'=>e=.returned (.bool (Eg n))∧w=w':=by
 unfold Eg;by_cases h:0≤n
 ·have h':decide (0≤n)=true:=by simpa using h
  go_enter func173,ntmps173;go_wp2;go_ret
  simp_all
 have h':decide (0≤n)=false:=by simpa using h
 go_enter func173,ntmps173;go_wp2;go_ret
 simp_all
theorem G9(n:Int)(w:World):Calls prog 153 #[.int .i64 n] w fun e w'=>e=.returned (.bool (Eg n))∧w=w':=by
 unfold Eg;by_cases h:0≤n
 ·have h':decide (0≤n)=true:=by simpa using h
  go_enter func153,ntmps153;go_wp2;go_ret
  simp_all
 have h':decide (0≤n)=false:=by simpa using h
 go_enter func153,ntmps153;go_wp2;go_ret
 simp_all
def Zxz(v n:Int):Int:=(v%18446744073709551616)%n
theorem Zug(v n:Int)(h1:1≤n)(h2:n≤9223372036854775807):wrap64 ((IntKind.u64.wrap v).tmod n)=Zxz v n:=by
 have e:IntKind.u64.wrap v=v%18446744073709551616:=by simp[IntKind.wrap,IntKind.bits,IntKind.signed]
 unfold Zxz wrap64;rw[e,Int.tmod_eq_emod_of_nonneg (by omega)];have:=Int.emod_lt_of_pos (v%18446744073709551616) (show 0<n by omega);have:=Int.emod_nonneg (v%18446744073709551616) (show n≠0 by omega);omega
theorem Mw(v n:Int)(h1:1≤n):0≤Zxz v n∧Zxz v n<n :=
 ⟨Int.emod_nonneg _ (by omega),Int.emod_lt_of_pos _ (by omega)⟩
theorem pick_any(v n:Int)(h1:1≤n)(h2:n≤9223372036854775807)(w:World) :
 Calls prog 23 #[.int .i64 v,.int .i64 n] w fun e w'=>e=.returned (.int .i64 (Zxz v n))∧w=w':=by
 have H:=Y8 (Zug v n h1 h2);go_enter func23,ntmps23;go_wp2;go_ret;exact⟨by show Ending.returned (.int .i64 (wrap64 ((IntKind.u64.wrap v).tmod n)))=_;rw[H.o],rfl⟩
def Po(now n:Int):Int:=if Eg now=false then 0 else if n<0 then now else if 1073741824-now<n then 1073741824 else now+n
theorem Znj{now n:Int}(h:Eg now=false):Po now n=0:=by simp[Po,h]
theorem Sx{now n:Int}(h:Eg now=true)(hn:n<0):Po now n=now:=by simp[Po,h,hn]
theorem Lh{now n:Int}(h:Eg now=true)(hn:0≤n)(hf:1073741824-now<n):Po now n=1073741824:=by simp[Po,h,hf];omega
theorem Sw{now n:Int}(h:Eg now=true)(hn:0≤n)(hf:n≤1073741824-now):Po now n=now+n:=by
 have h1:¬ n<0:=by omega
 have h2:¬ 1073741824-now<n:=by omega
 simp[Po,h,h1,h2]
theorem Cf(now n:Int)(w:World):Calls prog 116 #[.int .i64 now,.int .i64 n] w fun e w'=>e=.returned (.int .i64 (Po now n))∧w=w':=by
 by_cases ht:0≤now∧now≤1073741824
 ·obtain⟨t0,t1⟩:=ht;have hb:=Jl ⟨t0,t1⟩;by_cases hn:n<0
  ·have H:=Y8 (Sx hb hn);go_enter func116,ntmps116;go_wp2_with (go_at_call 153;refine(G9 _ _).mono ?_;rintro e w' ⟨rfl,rfl⟩);go_ret;exact⟨by rw[H.o];rfl,rfl⟩
  have hn':0≤n:=by omega
  by_cases hm:1073741824<n
  ·have H:=Y8 (Lh hb hn' (by omega));go_enter func116,ntmps116;go_wp2_with (go_at_call 153;refine(G9 _ _).mono ?_;rintro e w' ⟨rfl,rfl⟩);go_ret;exact⟨by rw[H.o];rfl,rfl⟩
  by_cases hf:1073741824-now<n
  ·have H:=Y8 (Lh hb hn' hf);have hlt:1073741824<now+n:=by omega
   go_enter func116,ntmps116;go_wp2_with (go_at_call 153;refine(G9 _ _).mono ?_;rintro e w' ⟨rfl,rfl⟩);go_ret;exact⟨by rw[H.o];rfl,rfl⟩
  have hf':n≤1073741824-now:=by omega
  have H:=Y8 (Sw hb hn' hf');have hlt:now+n≤1073741824:=by omega
  go_enter func116,ntmps116;go_wp2_with (go_at_call 153;refine(G9 _ _).mono ?_;rintro e w' ⟨rfl,rfl⟩);go_ret;exact⟨by rw[H.o];rfl,rfl⟩
 have hb:=Pz (show now<0∨1073741824<now by omega);have H:=Y8 (Znj (n:=n) hb);go_enter func116,ntmps116;go_wp2_with (go_at_call 153;refine(G9 _ _).mono ?_;rintro e w' ⟨rfl,rfl⟩);go_ret;exact⟨by rw[H.o];rfl,rfl⟩
def dlV(now ttl:Int):Int:=if Eg now=true∧1≤ttl∧ttl≤1073741824∧ttl≤1073741824-now then now+ttl else 0
def dlE(now ttl:Int):Int:=if Eg now=true∧1≤ttl∧ttl≤1073741824 then(if ttl≤1073741824-now then 0 else 8)else 3
theorem Zhh{a b c d:Int}(h:a=b)(k:c=d):Ending.returned (.tuple #[.int .i64 a,.int .i64 c])=.returned (.tuple #[.int .i64 b,.int .i64 d]):=by rw[h,k]
theorem Fa(now ttl:Int)(w:World):Calls prog 159 #[.int .i64 now,.int .i64 ttl] w fun e w'=>e=.returned (.tuple #[.int .i64 (dlV now ttl),.int .i64 (dlE now ttl)])∧w=w':=by
 by_cases ht:0≤now∧now≤1073741824
 ·obtain⟨t0,t1⟩:=ht;have hb:=Jl ⟨t0,t1⟩;have Hb:=Y8 hb;by_cases h1:ttl<1
  ·go_enter func159,ntmps159;go_wp2_with (go_at_call 173;refine(Aw _ _).mono ?_;rintro e w' ⟨rfl,rfl⟩);go_ret2;exact⟨Zhh (by unfold dlV;rw[Zgq (by omega)]) (by unfold dlE;rw[Zgq (by omega)]),rfl⟩
  by_cases h2:1073741824<ttl
  ·go_enter func159,ntmps159;go_wp2_with (go_at_call 173;refine(Aw _ _).mono ?_;rintro e w' ⟨rfl,rfl⟩);go_ret2;exact⟨Zhh (by unfold dlV;rw[Zgq (by omega)]) (by unfold dlE;rw[Zgq (by omega)]),rfl⟩
  by_cases h3:1073741824-now<ttl
  ·go_enter func159,ntmps159;go_wp2_with (go_at_call 173;refine(Aw _ _).mono ?_;rintro e w' ⟨rfl,rfl⟩);go_ret2;exact⟨Zhh (by unfold dlV;rw[Zgq (by omega)]) (by unfold dlE;rw[Zgn ⟨Hb.o,by omega,by omega⟩,Zgq (by omega)]),rfl⟩
  go_enter func159,ntmps159;go_wp2_with (go_at_call 173;refine(Aw _ _).mono ?_;rintro e w' ⟨rfl,rfl⟩);go_ret2;exact⟨Zhh (by unfold dlV;rw[Zgn ⟨Hb.o,by omega,by omega,by omega⟩]) (by unfold dlE;rw[Zgn ⟨Hb.o,by omega,by omega⟩,Zgn (by omega)]),rfl⟩
 have hb:=Pz (show now<0∨1073741824<now by omega);have Hb:=Y8 hb;go_enter func159,ntmps159;go_wp2_with (go_at_call 173;refine(Aw _ _).mono ?_;rintro e w' ⟨rfl,rfl⟩);go_ret2;exact⟨Zhh (by unfold dlV;rw[Zgq (by rw[Hb.o];simp)]) (by unfold dlE;rw[Zgq (by rw[Hb.o];simp)]),rfl⟩
def Kd(st dl now:Int):Bool:=st==2||(st==1&&decide (now<dl))
theorem Ql(st ow dl now:Int)(nm:ByteArray)(w:World) :
 Calls prog 163 #[.agg #[.int .i64 st,.int .i64 ow,.string nm,.int .i64 dl],.int .i64 now] w fun e w'=>e=.returned (.bool (Kd st dl now))∧Ext w w':=by
 unfold Kd;by_cases h2:st=2
 ·subst h2;go_enter func163,ntmps163;go_wp2;go_ret;exact⟨by simp,(Ext.refl _).alloc _⟩
 by_cases h1:st=1
 ·subst h1;go_enter func163,ntmps163;go_wp2;go_ret;exact⟨by simp,(Ext.refl _).alloc _⟩
 go_enter func163,ntmps163;go_wp2;go_ret;exact⟨by simp[h1,h2],(Ext.refl _).alloc _⟩
theorem Zzx(st ow dl now:Int)(nm:ByteArray)(w:World) :
 Calls prog 104 #[.agg #[.int .i64 st,.int .i64 ow,.string nm,.int .i64 dl],.int .i64 now] w fun e w'=>e=.returned (.bool (Kd st dl now))∧Ext w w':=by
 unfold Kd;by_cases h2:st=2
 ·subst h2;go_enter func104,ntmps104;go_wp2;go_ret;exact⟨by simp,(Ext.refl _).alloc _⟩
 by_cases h1:st=1
 ·subst h1;go_enter func104,ntmps104;go_wp2;go_ret;exact⟨by simp,(Ext.refl _).alloc _⟩
 go_enter func104,ntmps104;go_wp2;go_ret;exact⟨by simp[h1,h2],(Ext.refl _).alloc _⟩
structure Rc where
 st:Int
 ow:Int
 nm:ByteArray
 dl:Int
instance:Inhabited Rc:=⟨⟨0,0,⟨#[]⟩,0⟩⟩
def Rc.cells(r:Rc):List Value:=[.int .i64 r.st,.int .i64 r.ow,.string r.nm,.int .i64 r.dl]
def byteAt(s:ByteArray)(k:Nat):Int:=if h:k<s.size then(s[k].toNat:Int)else 0
def Zxh(y b:Int):Int:=bits BinOp.xor IntKind.u32 y (b%4294967296)*16777619%4294967296
def Zld(s:ByteArray):Nat→Int
 | 0=>2166136261
 | k+1=>Zxh (Zld s k) (byteAt s k)
def Zow(s:ByteArray):Int:=Zld s s.size
theorem Zif(s:ByteArray)(k:Nat):0≤Zld s k∧Zld s k<4294967296:=by
 cases k with
 | zero=>simp[Zld]
 | succ k=>unfold Zld Zxh;omega
theorem Tn(s:ByteArray):0≤Zow s∧Zow s<4294967296:=Zif s _
theorem Zlc(s:ByteArray):wrap64 (Zow s)=Zow s:=by
 have:=Tn s;unfold wrap64;omega
theorem Ff:prog.underlying 9=some .string:=by kernel_rfl
theorem Uo:prog.underlying 224=some (.slice 5):=by kernel_rfl
theorem Mr:prog.underlying 5=some (.int .u8):=by kernel_rfl
theorem P5(w:World)(s:ByteArray)(c:Nat)(e:TypeId)(f:Nat×Nat){k:Nat}(hk:k<s.size):(w.alloc (.cells (bytesRow s c) e f)).drew.cell? ⟨w.heap.size,k,none⟩=some (.int .u8 (byteAt s k)):=by
 have h1:(w.alloc (.cells (bytesRow s c) e f)).drew.heap[w.heap.size]?=some (.cells (bytesRow s c) e f):=Zg3 w _;have h2:k<s.data.size:=hk;have h3:(bytesRow s c)[k]?=some (.int .u8 (byteAt s k)):=by
  unfold bytesRow byteAt;rw[Ze8 (by simpa using h2),Zc5 hk];simp;exact⟨_,Zgj h2,rfl⟩
 simp only[World.cell?,h1];exact h3
theorem sum_any(s:ByteArray)(w:World)(hs:s.size≤maxLen):Calls prog 120 #[.string s] w fun e w'=>e=.returned (.int .i64 (Zow s))∧Ext w w':=by
 unfold maxLen at hs;obtain⟨n,hn⟩:=gnX (s.size);have H:=Y8 (show wrap64 (Zld s n)=Zow s by rw[← hn];exact Zlc s);have hcv:=fun w s=>run_bytes_of_string (P:=prog) w 9 224 5 s Ff Uo Mr
 have hx:∀ o,Ext w (w.alloc o).drew:=fun o=>((Ext.refl w).alloc o).drew
 go_enter func120,ntmps120;go_wp2_with fail;have hb:=fun c f k hk=>P5 w s c 5 f (k:=k) hk
 go_loopw [3,9] (fun x i wr=>∃ k:Nat,k≤n∧i=.int .i64 (k:Int)∧x=.int .u32 (Zld s k)∧Ext w wr∧∀ k,k<s.size→wr.cell? ⟨w.heap.size,k,none⟩=some (.int .u8 (byteAt s k))) (fun _ i _=>n-(intOf i).toNat);case atStart=>exact⟨0,by omega,rfl,rfl,hx _,fun k hk=>hb _ _ k hk⟩
 obtain⟨k,hk,rfl,rfl,hxr,hbr⟩:=hrel;by_cases hkn:k<n
 ·have hd:decide ((k:Int)<(n:Int))=true:=by simpa using hkn
  have hc:=hbr k (by omega);go_wp2_with fail;go_roundw;case rel=>exact⟨k+1,by omega,by go_num,by simp[Zld,Zxh],hxr,hbr⟩
  simp[intOf];omega
 have hd:decide ((k:Int)<(n:Int))=false:=by simp;omega
 have hkn':k=n:=by omega
 subst hkn';go_wp2_with fail;rw[H.o];go_ret;exact⟨rfl,hxr⟩
def Asc(l:List (List UInt8)):Prop:=l.Pairwise (fun a b=>a<b)
theorem Ui{a b:List UInt8}(h:a≤b)(hne:a≠b):a<b:=by
 rcases List.le_iff_lt_or_eq.1 h with h|h
 ·exact h
 exact absurd h hne
theorem P2:∀ {a b:List (List UInt8)},Asc a→Asc b→(∀ x,x∈a↔x∈b)→a=b
 | [],[],_,_,_=>rfl
 | [],y::b,_,_,h=>absurd ((h y).2 (by simp)) (by simp)
 | x::a,[],_,_,h=>absurd ((h x).1 (by simp)) (by simp)
 | x::a,y::b,ha,hb,h=>by
  obtain⟨ha1,ha2⟩:=Zg5.1 ha;obtain⟨hb1,hb2⟩:=Zg5.1 hb;have hxy:x=y:=by
   have h1:=(h x).1 (by simp);have h2:=(h y).2 (by simp);rcases Zg.1 h1 with e|m
   ·exact e
   rcases Zg.1 h2 with e|m2
   ·exact e.symm
   exact absurd (Zet (ha1 y m2) (hb1 x m)) (Zfq _)
  subst hxy;rw[P2 ha2 hb2 fun z=>⟨fun hz=>?_,fun hz=>?_⟩]
  ·rcases Zg.1 ((h z).1 (Zel _ hz))with e|m
   ·subst e;exact absurd (ha1 _ hz) (Zfq _)
   exact m
  rcases Zg.1 ((h z).2 (Zel _ hz))with e|m
  ·subst e;exact absurd (hb1 _ hz) (Zfq _)
  exact m
theorem Zng{l:List (List UInt8)}(h:l.Nodup):Asc (l.mergeSort fun x y=>decide (x≤y)):=by
 have h1:=Zcl (le:=fun x y:List UInt8=>decide (x≤y)) (fun a b c ha hb=>by simpa using List.le_trans (by simpa using ha) (by simpa using hb)) (fun a b=>by simpa using List.le_total a b) l;have h2:(l.mergeSort fun x y=>decide (x≤y)).Nodup:=(Zd4 l _).nodup_iff.2 h;refine(h1.and h2).imp ?_;intro a b hab;exact Ui (by simpa using hab.1) hab.2
theorem Zmf{l:List (List UInt8)}{x:List UInt8}:x∈(l.mergeSort fun x y=>decide (x≤y))↔x∈l:=(Zd4 l _).mem_iff
def bs(l:List UInt8):ByteArray:=⟨l.toArray⟩
theorem Mi(l:List UInt8):(bs l).data.toList=l:=rfl
theorem Zyb(s:ByteArray):bs s.data.toList=s:=rfl
theorem K9(a b:List UInt8):bs (a++b)=bs a++bs b:=by
 apply Zd2;simp[bs,ByteArray.data_append]
theorem Js(l:List UInt8):(bs l).size=l.length:=by simp[bs,ByteArray.size]
def zz(v:Int):Nat:=if 0≤v then(2*v).toNat else(-2*v-1).toNat
def Zok(u:Nat):Int:=if u%2=0 then(u/2:Nat)else -((u/2:Nat):Int)-1
theorem Zi1(v:Int):Zok (zz v)=v:=by
 unfold Zok zz;split
 ·rename_i h;split<;>omega
 rename_i h;split<;>omega
theorem Ztp{v:Int}(h1 : -9223372036854775808≤v)(h2:v≤9223372036854775807):zz v<18446744073709551616:=by
 unfold zz;split<;>omega
def leb(u:Nat):List UInt8 :=
 if u<128 then[UInt8.ofNat u]else UInt8.ofNat (u%128+128)::leb (u/128)
termination_by u
decreasing_by omega
theorem Gf{u:Nat}(h:u<128):leb u=[UInt8.ofNat u]:=by rw[leb,Zgn h]
theorem Sc{u:Nat}(h:¬ u<128):leb u=UInt8.ofNat (u%128+128)::leb (u/128):=by rw[leb,Zgq h]
theorem Zqv(u:Nat):0<(leb u).length:=by
 by_cases h:u<128
 ·rw[Gf h];simp
 rw[Sc h];simp
theorem Zqw:∀ (k u:Nat),u<128 ^ (k+1)→(leb u).length≤k+1
 | 0,u,h=>by rw[Gf (by simpa using h)];simp
 | k+1,u,h=>by
  by_cases hu:u<128
  ·rw[Gf hu];simp
  rw[Sc hu];have:u/128<128 ^ (k+1):=by
   rw[Zcy]at h;exact Nat.div_lt_of_lt_mul (by omega)
  have:=Zqw k _ this;simp;omega
theorem Zj2{u:Nat}(h:u<18446744073709551616):(leb u).length≤10:=Zqw 9 u (by omega)
def Ij(k acc:Nat):List UInt8→Option (Nat×Nat)
 | []=>none
 | c::r =>
  if k=9∧1<c.toNat then none
  else if 128≤c.toNat then Ij (k+1) (acc+(c.toNat%128)*128 ^ k) r
  else if c.toNat=0∧0<k then none
  else some (acc+c.toNat*128 ^ k,k+1)
theorem Zoq{n:Nat}(h:n<256):(UInt8.ofNat n).toNat=n:=by
 simp[UInt8.toNat_ofNat'];omega
theorem Zn8(r:List UInt8):∀ (z k acc:Nat),k≤9→z*128 ^ k<18446744073709551616→(0<k→0<z) →
 Ij k acc (leb z++r)=some (acc+z*128 ^ k,k+(leb z).length):=by
 intro z
 induction z using Nat.strongRecOn with
 | _ z ih =>
  intro k acc hk hz h0;by_cases hs:z<128
  ·rw[Gf hs];have h9:¬ (k=9∧1<z):=by
    rintro⟨rfl,h⟩;have:2*128 ^ 9≤z*128 ^ 9:=Zgi _ h;omega
   have hc:(UInt8.ofNat z).toNat=z:=Zoq (by omega);simp only[Zd0,Zo,Ij,hc];rw[Zgq h9,Zgq (by omega),Zgq (by omega)];simp
  rw[Sc hs];have hm:z%128<128:=Zca _ (by omega);have hc:(UInt8.ofNat (z%128+128)).toNat=z%128+128:=Zoq (by omega);have hk9:k≠9:=by
   rintro rfl;have:128*128 ^ 9≤z*128 ^ 9:=Zgi _ (by omega);omega
  simp only[Zd0,Ij,hc];rw[Zgq (by omega),Zgn (by omega)];have hd:z/128*128 ^ (k+1)≤z*128 ^ k:=by
   rw[Zcy,Zdu (128 ^ k) 128,← Zc7];exact Zgi _ (Nat.div_mul_le_self z 128)
  rw[ih (z/128) (by omega) (k+1) _ (by omega) (by omega) (fun _=>by omega)];have e1:(z%128+128)%128=z%128:=by omega
  rw[e1];have e2:z%128*128 ^ k+z/128*128 ^ (k+1)=z*128 ^ k:=by
   rw[Zcy,Zdu (128 ^ k) 128,← Zc7,← Zf5];congr 1;omega
  simp only[Zdl,Zfk,Zl];refine⟨by rw[Zfh,e2],by omega⟩
theorem Zrn:∀ (l:List UInt8) (k acc z n:Nat),k≤9→acc<128 ^ k→Ij k acc l=some (z,n)→z<18446744073709551616∧k<n∧n≤k+l.length∧n≤10
 | [],_,_,_,_,_,_,h=>by simp[Ij]at h
 | c::r,k,acc,z,n,hk,ha,h=>by
  rw[Ij]at h;have hc:=UInt8.toNat_lt c;split at h
  ·simp at h
  rename_i h1;split at h
  ·rename_i h2;have hk9:k≠9:=fun e=>h1 ⟨e,by omega⟩
   have hp:acc+(c.toNat%128)*128 ^ k<128 ^ (k+1):=by
    have:c.toNat%128≤127:=by omega
    have:=Zgi (128 ^ k) this;rw[Zcy];omega
   obtain⟨a1,a2,a3,a4⟩:=Zrn r (k+1) _ z n (by omega) hp h;simp only[Zl];exact⟨a1,by omega,by omega,a4⟩
  split at h
  ·simp at h
  rename_i h2 h3;simp only[Zdl,Zfk]at h;obtain⟨rfl,rfl⟩:=h;simp only[Zl];refine⟨?_,by omega,by omega,by omega⟩;by_cases hk9:k=9
  ·subst hk9;have:c.toNat≤1:=Nat.le_of_not_lt fun h=>h1 ⟨rfl,h⟩
   have:=Zgi (128 ^ 9) this;omega
  have h8:k≤8:=by omega
  have:c.toNat≤127:=by omega
  have:=Zgi (128 ^ k) this;have h9:(128:Nat) ^ k≤128 ^ 8:=Zf6 (by omega) h8;omega
def code(v:Int):List UInt8:=leb (zz v)
def Ii(l:List UInt8):Option (Int×Nat):=(Ij 0 0 l).map fun p=>(Zok p.1,p.2)
theorem Zrl{v:Int}(h1 : -9223372036854775808≤v)(h2:v≤9223372036854775807)(r:List UInt8):Ii (code v++r)=some (v,(code v).length):=by
 unfold Ii code;rw[Zn8 r (zz v) 0 0 (by omega) (by simpa using Ztp h1 h2) (by omega)];simp[Zi1]
theorem Znb(v:Int):0<(code v).length:=Zqv _
theorem Vj{v:Int}(h1 : -9223372036854775808≤v)(h2:v≤9223372036854775807):(code v).length≤10:=Zj2 (Ztp h1 h2)
theorem Zi0{u:Nat}(h:u<18446744073709551616) : -9223372036854775808≤Zok u∧Zok u≤9223372036854775807:=by
 unfold Zok;split<;>omega
theorem Zrm{l:List UInt8}{v:Int}{n:Nat}(h:Ii l=some (v,n)) : -9223372036854775808≤v∧v≤9223372036854775807∧0<n∧n≤l.length∧n≤10:=by
 unfold Ii at h;simp only[Zg9,Zfk]at h;obtain⟨⟨z,m⟩,h1,rfl,rfl⟩:=h;obtain⟨a1,a2,a3,a4⟩:=Zrn l 0 0 z m (by omega) (by simp) h1;obtain⟨b1,b2⟩:=Zi0 a1;exact⟨b1,b2,by omega,by omega,a4⟩
structure Nm where
 a:ByteArray
 u:ByteArray
 k:ByteArray
structure Ent where
 cl:Int
 op:Int
 ttl:Int
 tick:Int
 names:List Nm
def Xh(op:Int):Bool:=op==1||op==3
def srt:List Nm→Bool
 | []=>true
 | [_]=>true
 | x::y::r=>decide (x.k.data.toList<y.k.data.toList)&&srt (y::r)
def Qn(e:Ent):Bool :=
 decide (0≤e.cl)&&decide (e.cl≤63)&&decide (1≤e.op)&&decide (e.op≤6)&&(if Xh e.op then decide (1≤e.ttl)&&decide (e.ttl≤1073741824)else e.ttl==0)&&decide (0≤e.tick)&&decide (e.tick≤1073741824)&&decide (1≤e.names.length)&&decide (e.names.length≤16)
def Jt(n:Nm):Bool:=decide (1≤n.a.size)&&decide (n.a.size≤63)
def Vn(e:Ent):Int:=if !Qn e then 3 else if !srt e.names then 1 else if e.names.all Jt then 0 else 1
def Zoz(l:List UInt8):Nat:=(Zow (bs l)).toNat
theorem Zoy(l:List UInt8):Zoz l<4294967296:=by
 have:=Tn (bs l);unfold Zoz;omega
theorem Zle(s:ByteArray):((Zoz s.data.toList:Nat):Int)=Zow s:=by
 have:=Tn s;unfold Zoz;rw[Zyb];omega
def item(s:List UInt8):List UInt8:=code s.length++s
def Vs(n:Nm):List UInt8:=item n.a.data.toList++item n.u.data.toList++item n.k.data.toList
def Xo:List Nm→List UInt8
 | []=>[]
 | n::r=>Vs n++Xo r
theorem Jp:∀ a b:List Nm,Xo (a++b)=Xo a++Xo b
 | [],_=>rfl
 | n::r,b=>by simp[Xo,Jp r b]
def Wf(e:Ent):List UInt8:=code e.cl++code e.op++code e.ttl++code e.tick++code (e.names.length:Nat)
def Vx(e:Ent):List UInt8:=Wf e++Xo e.names
def Bb(b:List UInt8):List UInt8:=item b++code (Zoz b:Nat)
def Kv(e:Ent):Int×List UInt8:=if Vn e≠0 then(Vn e,[])else if 4096<(Vx e).length then(7,[])else(0,Bb (Vx e))
def Bc(s:List UInt8)(at_:Nat)(bad:Bool):Int×Nat×Bool :=
 if bad then(0,at_,true)else match Ii (s.drop at_)with
  | some (v,k)=>(v,at_+k,false)
  | none=>(0,at_,true)
def Qz(s:List UInt8)(at_:Nat)(bad:Bool):List UInt8×Nat×Bool :=
 let p:=Bc s at_ bad
 if p.2.2=true∨p.1<0∨(s.length-p.2.1:Nat)<p.1 then([],p.2.1,true)else((s.drop p.2.1).take p.1.toNat,p.2.1+p.1.toNat,false)
theorem Kc{s:List UInt8}{t:Nat}{b:Bool}(h:t≤s.length):(Bc s t b).2.1≤s.length∧t≤(Bc s t b).2.1:=by
 unfold Bc;split
 ·exact⟨h,Ym _⟩
 split
 ·rename_i hg;obtain⟨_,_,_,h3,_⟩:=Zrm hg;simp at h3⊢;omega
 exact⟨h,Ym _⟩
theorem Kg{s:List UInt8}{t:Nat}{b:Bool}(h:t≤s.length):(Qz s t b).2.1≤s.length∧t≤(Qz s t b).2.1:=by
 obtain⟨h1,h2⟩:=Kc (b:=b) h;unfold Qz;simp only;split
 ·exact⟨h1,h2⟩
 rename_i hn;simp only[Zby]at hn;simp only;omega
theorem Ow(s:List UInt8)(t:Nat)(b:Bool) : -9223372036854775808≤(Bc s t b).1∧(Bc s t b).1≤9223372036854775807:=by
 unfold Bc;split
 ·simp
 split
 ·rename_i hg;obtain⟨h1,h2,_⟩:=Zrm hg;exact⟨h1,h2⟩
 simp
theorem Zqb{v:Int}(h1 : -9223372036854775808≤v)(h2:v≤9223372036854775807)(p r:List UInt8):Bc (p++(code v++r)) p.length false=(v,p.length+(code v).length,false):=by
 unfold Bc;rw[Zcs,Zrl h1 h2];simp
theorem Jo{v:Int}(h1 : -9223372036854775808≤v)(h2:v≤9223372036854775807){s:List UInt8}{t:Nat}(p r:List UInt8)(hs:s=p++(code v++r))(ht:t=p.length):Bc s t false=(v,t+(code v).length,false):=by
 subst hs ht;exact Zqb h1 h2 p r
theorem Bi{b:List UInt8}(hb:b.length≤9223372036854775807){s:List UInt8}{t:Nat}(p r:List UInt8)(hs:s=p++(item b++r))(ht:t=p.length):Qz s t false=(b,t+(item b).length,false):=by
 have e:Bc s t false=((b.length:Int),t+(code (b.length:Int)).length,false):=Jo (by omega) (by omega) p (b++r) (by rw[hs,item];simp) ht;have hl:s.length=p.length+(code (b.length:Int)).length+b.length+r.length:=by rw[hs,item];simp;omega
 unfold Qz;rw[e];simp only;rw[Zgq (by simp;omega)];have hd:s.drop (t+(code (b.length:Int)).length)=b++r:=by
  rw[hs,ht,item,← Zcr,Zcs,Zek,Zcs]
 rw[hd];simp[item];omega
def Jd(s:List UInt8)(t:Nat)(b:Bool):Nm×Nat×Bool :=
 let p:=Qz s t b
 let q:=Qz s p.2.1 p.2.2
 let r:=Qz s q.2.1 q.2.2
 (⟨bs p.1,bs q.1,bs r.1⟩,r.2.1,r.2.2)
theorem Zmb{s:List UInt8}{t:Nat}{b:Bool}(h:t≤s.length):(Jd s t b).2.1≤s.length∧t≤(Jd s t b).2.1:=by
 unfold Jd;simp only;have h1:=Kg (b:=b) h;have h2:=Kg (s:=s) (b:=(Qz s t b).2.2) h1.1;have h3:=Kg (s:=s) (b:=(Qz s (Qz s t b).2.1 (Qz s t b).2.2).2.2) h2.1;exact⟨h3.1,by omega⟩
def Va(s:List UInt8):Nat→Nat→Bool→List Nm×Nat×Bool
 | 0,t,b=>([],t,b)
 | n+1,t,b=>let p:=Jd s t b;let q:=Va s n p.2.1 p.2.2;(p.1::q.1,q.2.1,q.2.2)
theorem Zy1{n:Nm}(h1:n.a.size≤4096)(h2:n.u.size≤4096)(h3:n.k.size≤4096){s:List UInt8}{t:Nat}(p r:List UInt8)(hs:s=p++(Vs n++r))(ht:t=p.length):Jd s t false=(n,t+(Vs n).length,false):=by
 have q1:n.a.data.toList.length≤4096:=h1;have q2:n.u.data.toList.length≤4096:=h2;have q3:n.k.data.toList.length≤4096:=h3;have e1:=Bi (b:=n.a.data.toList) (s:=s) (t:=t) (by omega) p (item n.u.data.toList++item n.k.data.toList++r) (by rw[hs,Vs];simp) ht;have e2:=Bi (b:=n.u.data.toList) (s:=s) (t:=t+(item n.a.data.toList).length) (by omega) (p++item n.a.data.toList) (item n.k.data.toList++r) (by rw[hs,Vs];simp) (by rw[ht];simp);have e3:=Bi (b:=n.k.data.toList) (s:=s) (t:=t+(item n.a.data.toList).length+(item n.u.data.toList).length) (by omega) (p++item n.a.data.toList++item n.u.data.toList) r (by rw[hs,Vs];simp) (by rw[ht];simp;omega);unfold Jd;simp only[e1,e2,e3];simp only[Zfk,Zfw];refine⟨rfl,?_⟩;simp[Vs];omega
theorem Lz(s r:List UInt8):∀ (l:List Nm) (p:List UInt8) (t:Nat),(∀ n∈l,n.a.size≤4096∧n.u.size≤4096∧n.k.size≤4096)→s=p++(Xo l++r)→t=p.length→Va s l.length t false=(l,t+(Xo l).length,false)
 | [],p,t,_,_,_=>by simp[Va,Xo]
 | n::l,p,t,h,hs,ht=>by
  obtain⟨h1,h2,h3⟩:=h n (by simp);have e1:=Zy1 h1 h2 h3 (s:=s) (t:=t) p (Xo l++r) (by rw[hs,Xo];simp) ht;have e2:=Lz s r l (p++Vs n) (t+(Vs n).length) (fun m hm=>h m (by simp[hm])) (by rw[hs,Xo];simp) (by rw[ht];simp);simp only[Zl,Va,e1,e2,Xo,Zs];simp;omega
structure Head where
 cl:Int
 op:Int
 ttl:Int
 tick:Int
 n:Int
 at_:Nat
 bad:Bool
def Je(s:List UInt8):Head :=
 let a:=Bc s 0 false
 let b:=Bc s a.2.1 a.2.2
 let c:=Bc s b.2.1 b.2.2
 let d:=Bc s c.2.1 c.2.2
 let e:=Bc s d.2.1 d.2.2
 ⟨a.1,b.1,c.1,d.1,e.1,e.2.1,e.2.2⟩
theorem Zmx(s:List UInt8):(Je s).at_≤s.length:=by
 unfold Je;simp only;exact(Kc (Kc (Kc (Kc (Kc (Zgf _)).1).1).1).1).1
theorem Zyk{e:Ent}(h1:I64 e.cl)(h2:I64 e.op)(h3:I64 e.ttl)(h4:I64 e.tick)(h5:e.names.length≤16){s:List UInt8}(r:List UInt8)(hs:s=Wf e++r):Je s=⟨e.cl,e.op,e.ttl,e.tick,e.names.length,(Wf e).length,false⟩:=by
 have e1:=Jo h1.1 h1.2 (s:=s) (t:=0) [] (code e.op++code e.ttl++code e.tick++code (e.names.length:Nat)++r) (by rw[hs,Wf];simp) rfl;have e2:=Jo h2.1 h2.2 (s:=s) (t:=0+(code e.cl).length) (code e.cl) (code e.ttl++code e.tick++code (e.names.length:Nat)++r) (by rw[hs,Wf];simp) (by simp);have e3:=Jo h3.1 h3.2 (s:=s) (t:=0+(code e.cl).length+(code e.op).length) (code e.cl++code e.op) (code e.tick++code (e.names.length:Nat)++r) (by rw[hs,Wf];simp) (by simp);have e4:=Jo h4.1 h4.2 (s:=s) (t:=0+(code e.cl).length+(code e.op).length+(code e.ttl).length) (code e.cl++code e.op++code e.ttl) (code (e.names.length:Nat)++r) (by rw[hs,Wf];simp) (by simp;omega);have e5:=Jo (v:=(e.names.length:Nat)) (by omega) (by omega) (s:=s) (t:=0+(code e.cl).length+(code e.op).length+(code e.ttl).length+(code e.tick).length) (code e.cl++code e.op++code e.ttl++code e.tick) r (by rw[hs,Wf];simp) (by simp;omega);unfold Je;simp only[e1,e2,e3,e4,e5];simp only[Head.mk.injEq,Zg0,Zfw];simp[Wf];omega
def Zwv(s:List UInt8):Option Ent :=
 let h:=Je s
 if 1≤h.n∧h.n≤16 then
  let q:=Va s h.n.toNat h.at_ h.bad
  if q.2.2 then none else some ⟨h.cl,h.op,h.ttl,h.tick,q.1⟩
 else none
def Gx(s:List UInt8)(e:Ent)(n:Nat):Prop:=∃ x,Kv e=(0,x)∧x <+: s∧n=x.length
structure Fits(e:Ent):Prop where
 cl:I64 e.cl
 op:I64 e.op
 ttl:I64 e.ttl
 tick:I64 e.tick
 len:e.names.length≤16
 pos:1≤e.names.length
 names:∀ n∈e.names,n.a.size≤4096∧n.u.size≤4096∧n.k.size≤4096
 body:(Vx e).length≤4096
theorem Ey{n:Nm}:∀ {l:List Nm},n∈l→n.a.size+n.u.size+n.k.size≤(Xo l).length
 | m::l,h=>by
  rcases Zg.1 h with rfl|h
  ·simp only[Xo,Vs,item,Zs];show n.a.data.toList.length+n.u.data.toList.length+n.k.data.toList.length≤_;omega
  have:=Ey h;simp only[Xo,Zs];omega
theorem Dy{e:Ent}{x:List UInt8}(h:Kv e=(0,x)):Fits e∧x=Bb (Vx e)∧Vn e=0:=by
 unfold Kv at h;split at h
 ·rename_i hc;simp only[Zfk]at h;exact absurd h.1 hc
 rename_i hc;split at h
 ·simp at h
 rename_i hb;simp only[Zfk,Zg0]at h;simp only[Decidable.not_not]at hc;have hr:Qn e=true:=by
  cases hr:Qn e with
  | true=>rfl
  | false=>unfold Vn at hc;rw[hr]at hc;simp at hc
 simp only[Qn,Zgc,Zgh]at hr;obtain⟨⟨⟨⟨⟨⟨⟨⟨a1,a2⟩,a3⟩,a4⟩,a5⟩,a6⟩,a7⟩,a8⟩,a9⟩:=hr;have ht:I64 e.ttl:=by
  split at a5
  ·simp only[Zgc,Zgh]at a5;exact⟨by omega,by omega⟩
  simp only[Zc0]at a5;rw[a5];exact⟨by omega,by omega⟩
 refine⟨⟨⟨by omega,by omega⟩,⟨by omega,by omega⟩,ht,⟨by omega,by omega⟩,a9,a8,fun n hn=>?_,by omega⟩,h.symm,hc⟩;have:=Ey hn;have hl:(Xo e.names).length≤(Vx e).length:=by simp[Vx]
 omega
theorem Zs8{e:Ent}(f:Fits e):Zwv (Vx e)=some e:=by
 have h:=Zyk f.cl f.op f.ttl f.tick f.len (s:=Vx e) (Xo e.names) rfl;have hn:=Lz (Vx e) [] e.names (Wf e) (Wf e).length f.names (by simp[Vx]) rfl;unfold Zwv;simp only[h];have h1:=f.pos;have h2:=f.len;rw[Zgn ⟨by omega,by omega⟩];simp only[Zej,hn];rfl
theorem wrap_text{e:Ent}(f:Fits e)(r:List UInt8):Qz (Bb (Vx e)++r) 0 false=(Vx e,(item (Vx e)).length,false)∧Bc (Bb (Vx e)++r) (item (Vx e)).length false=(((Zoz (Vx e):Nat):Int),(Bb (Vx e)).length,false):=by
 have hb:=f.body;have hs:=Zoy (Vx e);constructor
 ·have:=Bi (b:=Vx e) (s:=Bb (Vx e)++r) (t:=0) (by omega) [] (code (Zoz (Vx e):Nat)++r) (by simp[Bb]) rfl;simpa using this
 have:=Jo (v:=(Zoz (Vx e):Nat)) (by omega) (by omega) (s:=Bb (Vx e)++r) (t:=(item (Vx e)).length) (item (Vx e)) r (by simp[Bb]) rfl;rw[this];simp[Bb]
def Q9(s:List UInt8):Option (Ent×Nat) :=
 let b:=Qz s 0 false
 let c:=Bc s b.2.1 b.2.2
 if c.2.2 then none else match Zwv b.1 with
  | none=>none
  | some e=>if Kv e=(0,s.take c.2.1)then some (e,c.2.1)else none
theorem Uv{s:List UInt8}{e:Ent}{n:Nat}(h:Q9 s=some (e,n)):Gx s e n:=by
 unfold Q9 at h;simp only at h;split at h
 ·simp at h
 split at h
 ·simp at h
 split at h
 ·rename_i he;simp only[Zdl,Zfk]at h;obtain⟨rfl,rfl⟩:=h;refine⟨_,he,List.take_prefix _ _,?_⟩;have:=(Kc (s:=s) (b:=(Qz s 0 false).2.2) (Kg (s:=s) (b:=false) (Zgf _)).1).1;rw[Zp];omega
 simp at h
theorem Il{s:List UInt8}{e:Ent}{n:Nat}(h:Gx s e n):Q9 s=some (e,n):=by
 obtain⟨x,he,⟨r,rfl⟩,rfl⟩:=h;obtain⟨f,rfl,_⟩:=Dy he;obtain⟨h1,h2⟩:=wrap_text f r;unfold Q9;simp only[h1,h2,Zs8 f];rw[List.take_left,he];simp
theorem Fn(s:List UInt8):∀ (n t:Nat) (b:Bool),(Va s n t b).1.length=n
 | 0,_,_=>rfl
 | n+1,t,b=>by rw[Va];simp[Fn s n]
theorem Zyn{s:List UInt8}(h:Q9 s=none)(e:Ent)(n:Nat):¬ Gx s e n:=fun k=>by rw[Il k]at h;simp at h
theorem Zvw(b:List UInt8):0<(Bb b).length:=by
 have:=Znb (Zoz b:Nat);simp[Bb];omega
theorem first_pos{s:List UInt8}{e:Ent}{n:Nat}(h:Gx s e n):0<n∧n≤s.length:=by
 obtain⟨x,he,hp,rfl⟩:=h;obtain⟨_,rfl,_⟩:=Dy he;exact⟨Zvw _,hp.length_le⟩
def Kl:Nat→List UInt8→List Ent×Nat
 | 0,_=>([],0)
 | k+1,s=>match Q9 s with
  | none=>([],0)
  | some (e,n)=>let q:=Kl k (s.drop n);(e::q.1,n+q.2)
def Jv(s:List UInt8):List Ent×Nat:=Kl 4096 s
def appJ(s:List UInt8)(e:Ent):Int×List UInt8 :=
 if(Kv e).1≠0 then((Kv e).1,[])else
  if 4096≤(Jv s).1.length∨32768<(Jv s).2+(Kv e).2.length then(7,[])else(0,s.take (Jv s).2++(Kv e).2)
theorem Tr:∀ (k:Nat) (s:List UInt8),(Kl k s).2≤s.length∧(Kl k s).1.length≤k
 | 0,_=>by simp[Kl]
 | k+1,s=>by
  rw[Kl];split
  ·simp
  rename_i e n h;obtain⟨h1,h2⟩:=first_pos (Uv h);obtain⟨h3,h4⟩:=Tr k (s.drop n);rw[Yz]at h3;simp only[Zl];exact⟨by omega,by omega⟩
theorem Rl{k:Nat}{s:List UInt8}{e:Ent}{n:Nat}(h:Gx s e n):Kl (k+1) s=(e::(Kl k (s.drop n)).1,n+(Kl k (s.drop n)).2):=by
 rw[Kl,Il h]
theorem Fk{k:Nat}{s:List UInt8}(h:∀ e n,¬ Gx s e n):Kl k s=([],0):=by
 cases k with
 | zero=>rfl
 | succ k =>
  rw[Kl];cases hp:Q9 s with
  | none=>rfl
  | some p=>exact absurd (Uv hp) (h _ _)
def Wj:List Ent→List UInt8
 | []=>[]
 | e::r=>(Kv e).2++Wj r
theorem Uk:∀ a b:List Ent,Wj (a++b)=Wj a++Wj b
 | [],_=>rfl
 | e::r,b=>by simp[Wj,Uk r b]
theorem Dj(e:Ent)(n:Nat):¬ Gx [] e n:=fun h=>by
 have:=first_pos h;simp at this;omega
theorem Zyo{e:Ent}(h:(Kv e).1=0)(r:List UInt8):Gx ((Kv e).2++r) e (Kv e).2.length :=
 ⟨_,Zbz h rfl,List.prefix_append _ _,rfl⟩
theorem Eh:∀ (l:List Ent) (k:Nat) (r:List UInt8),l.length≤k→(∀ e∈l,(Kv e).1=0)→Kl k (Wj l++r)=(l++(Kl (k-l.length) r).1,(Wj l).length+(Kl (k-l.length) r).2)
 | [],k,r,_,_=>by simp[Wj]
 | e::l,0,_,h,_=>by simp at h
 | e::l,k+1,r,h,he=>by
  have h1:=Zyo (he e (by simp)) (Wj l++r);rw[Wj,Zek,Rl h1,Zcs,Eh l k r (by simpa using h) (fun x hx=>he x (by simp[hx]))];simp[Nat.add_sub_add_right];omega
def Src(B:Nat)(w:World)(b:Nat):Prop :=
 ∃ (a:Option Addr) (len cap:Nat) (i:Nat),w.heap[b]?=some (.cells #[.slice a len cap,.int .i64 (i:Int)] 165 (0,0))∧B≤b∧len≤maxLen∧i≤len ∧
  (0<len→∃ x,a=some x∧x.block<B∧∀ j,j<len→∃ z,w.cell? (x.add j)=some (.int .i64 z)∧I64 z)
theorem add_block(a:Addr)(n:Nat):(a.add n).block=a.block:=by unfold Addr.add;split<;>rfl
theorem Src.keep{B b:Nat}{w w':World}(h:Src B w b)(hk:∀ k,k<B∨k=b→w'.heap[k]?=w.heap[k]?):Src B w' b:=by
 obtain⟨a,len,cap,i,hb,h0,hl,hi,hx⟩:=h;refine⟨a,len,cap,i,by rw[hk b (.inr rfl)];exact hb,h0,hl,hi,fun h=>?_⟩;obtain⟨x,e,hxb,hc⟩:=hx h;exact⟨x,e,hxb,fun j hj=>by
  obtain⟨z,hz,hb⟩:=hc j hj;exact⟨z,by rw[← hz];exact Zfc (hk _ (.inl (by rw[add_block];exact hxb))),hb⟩⟩
theorem Src.drew{B b:Nat}{w:World}(h:Src B w b):Src B w.drew b:=h
theorem Src.lt{B b:Nat}{w:World}(h:Src B w b):b<w.heap.size:=by
 obtain⟨a,len,cap,i,hb,_⟩:=h;exact(Zgk.1 hb).1
theorem Src.ge{B b:Nat}{w:World}(h:Src B w b):B≤b:=by
 obtain⟨a,len,cap,i,hb,h,_⟩:=h;exact h
theorem Src.alloc{B b:Nat}{w:World}(h:Src B w b)(o:Obj):Src B (w.alloc o) b :=
 h.keep fun k hk=>Below.heap_alloc w o k (by have:=h.lt;have:=h.ge;omega)
theorem Src.setCell{B b:Nat}{w:World}(h:Src B w b){p:Addr}(h1:B≤p.block)(h2:p.block≠b)(u:Value):Src B (w.setCell p u) b :=
 h.keep fun k hk=>Zds w p u k (by rintro rfl;rcases hk with hk|hk;omega;exact h2 hk)
theorem Src.ext{B b:Nat}{w w':World}(h:Src B w b)(he:Ext w w'):Src B w' b :=
 h.keep fun k hk=>he.block (by have:=h.lt;have:=h.ge;omega)
theorem Si(a:Option Addr)(n c:Nat)(w:World) :
 Calls prog 41 #[.slice a n c] w fun e w'=>e=.returned (.pointer (some ⟨w.heap.size,0,none⟩))∧w.alloc (.cells #[.slice a n c,.int .i64 0] 165)=w':=by
 go_enter func41,ntmps41;go_wp2;go_ret;exact⟨rfl,rfl⟩
theorem Zzv{w:World}{a:Addr}{v:Value}(h:w.cell? (a.add 0)=some v):a.spot=none:=by simpa[Addr.add]using World.cell?_spot h
def Zns(B b:Nat)(n:Int)(w:World)(e:Ending)(w':World):Prop:=∃ v:Nat,(v:Int)<n∧e=.returned (.int .i64 (v:Int))∧Src B w' b∧Chg (· = b) w w'∧w'.heap.size=w.heap.size
theorem Zsb(w:World)(b k k':Nat)(u:Value):Chg (· = b) w (((w.drewN k).setCell ⟨b,1,none⟩ u).drewN k') :=
 Chg.drewN (Chg.setCell (S:=(· = b)) (p:=⟨b,1,none⟩) (Chg.drewN (Chg.refl _ w) k) (.inl rfl) u) k'
theorem Zp4{B:Nat}{w:World}{b i:Nat}{a:Option Addr}{len cap:Nat}(hb:w.heap[b]?=some (.cells #[.slice a len cap,.int .i64 (i:Int)] 165 (0,0)))(h0:B≤b)(hl:len≤maxLen)(hi:i<len)
 (hx:0<len→∃ x,a=some x∧x.block<B∧∀ j,j<len→∃ z,w.cell? (x.add j)=some (.int .i64 z)∧I64 z) (k k':Nat):Src B (((w.drewN k).setCell ⟨b,1,none⟩ (.int .i64 ((i:Int)+1))).drewN k') b:=by
 refine⟨a,len,cap,i+1,?_,h0,hl,by omega,fun h=>?_⟩
 ·have hb':(w.drewN k).heap[b]?=some (.cells #[.slice a len cap,.int .i64 (i:Int)] 165 (0,0)):=hb;show((w.drewN k).heap.modify b _)[b]?=_;rw[Zes,Zgn rfl,hb'];rfl
 obtain⟨x,hx1,hx2,hx3⟩:=hx h;refine⟨x,hx1,hx2,fun j hj=>?_⟩;obtain⟨z,hz1,hz2⟩:=hx3 j hj;refine⟨z,?_,hz2⟩;have e:((w.drewN k).setCell ⟨b,1,none⟩ (.int .i64 ((i:Int)+1))).cell? (x.add j)=(w.drewN k).cell? (x.add j):=Zfc (Zds _ _ _ _ (by rw[add_block];exact Zde (Zgp hx2 h0)));exact e.trans hz1
theorem next_any(b:Nat)(n:Int)(h1:1≤n)(h2:n≤9223372036854775807)(w:World)(B:Nat)(hs:Src B w b) :
 Calls prog 42 #[.pointer (some ⟨b,0,none⟩),.int .i64 n] w (Zns B b n w):=by
 have HS:=Y8 hs;obtain⟨a,len,cap,i,hb,hB,hl,hi,hx⟩:=hs;have hc0:w.cell? ⟨b,0,none⟩=some (.slice a len cap):=by simp[World.cell?,hb]
 have hc1:w.cell? ⟨b,1,none⟩=some (.int .i64 (i:Int)):=by simp[World.cell?,hb]
 have hf1:w.frozen? ⟨b,1,none⟩=false:=by simp[World.frozen?,hb]
 by_cases hlt:i<len
 ·have HB:=Y8 hb;have HX:=Y8 hx;have HL:=Y8 hl;have HG:=Y8 hB;obtain⟨x,rfl,hxb,hxc⟩:=hx (by omega);obtain⟨z,hz,hzb⟩:=hxc i hlt;obtain⟨_,hz0,_⟩:=hxc 0 (by omega);have hspot:=Zzv hz0;clear hz0;obtain⟨xb,off,spot⟩:=x;have hs0:spot=none:=hspot;subst hs0;have hz':w.cell? ⟨xb,off+i,none⟩=some (.int .i64 z):=by rw[← hz];congr 1;simp[Addr.add]
  have hd:decide ((len:Int)≤(i:Int))=false:=by simp;omega
  have hi0:(0:Int)≤(i:Int):=by omega
  have hi1:(i:Int)<(len:Int):=by omega
  have hne:¬ xb=b:=Zde (Zgp hxb hB);unfold maxLen at hl;clear hb hx hxc hz hxb hspot hi hB;go_enter func42,ntmps42;go_wp2;go_quiet (fail);go_wp2;go_quiet ((go_at_call 23;exact Calls.quiet_of_same ((pick_any _ _ h1 h2 _).mono fun _ _ h=>⟨h.1,h.2.symm⟩)));go_wp2;go_ret;exact⟨(Zxz z n).toNat,by have:=Mw z n h1;omega,by rw[Zew (Mw z n h1).1];rfl,Zp4 HB.o HG.o HL.o hlt HX.o _ _,Zsb _ _ _ _ _,by simp[World.setCell,World.drewN]⟩
 have hd:decide ((len:Int)≤(i:Int))=true:=by simp;omega
 have hl':len≤9223372036854775807:=by unfold maxLen at hl;omega
 go_enter func42,ntmps42;go_wp2;go_quiet (fail);go_wp2;go_ret;exact⟨0,by omega,rfl,HS.o,(Chg.refl _ _).drewN _,rfl⟩
theorem Src.chg{B b:Nat}{w w':World}{S:Nat→Prop}(h:Src B w b)(c:Chg S w w')(hb:¬ S b)(hB:∀ k,k<B→¬ S k):Src B w' b:=by
 obtain⟨a,len,cap,i,h1,h2,h3,h4,h5⟩:=h;have hl:b<w.heap.size:=(Zgk.1 h1).1;refine⟨a,len,cap,i,(c.block b hl hb).trans h1,h2,h3,h4,fun h0=>?_⟩;obtain⟨x,e,hx,hc⟩:=h5 h0;refine⟨x,e,hx,fun j hj=>?_⟩;obtain⟨z,hz,hi⟩:=hc j hj;exact⟨z,(c.cell (p:=x.add j) (by rcases Zff (x.add j).block w.heap.size with q|q;exact q;simp[World.cell?,Zdm q]at hz) (by rw[add_block];exact hB _ hx)).trans hz,hi⟩
def Eu(w:World)(a:Option Addr)(len:Nat):Prop:=len≤maxLen∧(0<len→∃ x,a=some x∧x.block<w.heap.size∧∀ j,j<len→∃ z,w.cell? (x.add j)=some (.int .i64 z)∧I64 z)
theorem Eu.of_row{w:World}{a:Option Addr}{len cap:Nat}{zs:List Int}(h:IsRow .i64 w a len cap zs):Eu w a len:=by
 refine⟨?_,fun hl=>?_⟩
 ·rcases h with⟨_,rfl,_⟩ | ⟨x,_,h1,h2,_⟩
  ·unfold maxLen;omega
  omega
 rcases h with⟨_,rfl,_⟩ | ⟨x,rfl,h1,h2,h3,h4,h5⟩
 ·omega
 have hc:∀ j,j<len→x.block<w.heap.size∧w.cell? (x.add j)=some (.int .i64 (zs.getD j 0)):=fun j hj=>by
  have hc:=h4 j (by omega);refine⟨?_,hc⟩;have hb:(x.add j).block<w.heap.size:=by
   rcases Zff (x.add j).block w.heap.size with hlt|hge
   ·exact hlt
   simp[World.cell?,Zdm hge]at hc
  rwa [add_block]at hb
 refine⟨x,rfl,(hc 0 hl).1,fun j hj=>⟨zs.getD j 0,(hc j hj).2,?_⟩⟩;have hj':j<zs.length:=by omega
 rw[Zfr,Zz hj',Zed];exact Zrb (h5 _ (Zci hj'))
theorem Bx{w w1:World}{a:Option Addr}{len cap:Nat}(h:Eu w a len)(x:Ext w w1):Src w.heap.size (w1.alloc (.cells #[.slice a len cap,.int .i64 0] 165)) w1.heap.size:=by
 obtain⟨h1,h2⟩:=h;refine⟨a,len,cap,0,Zg3 _ _,x.size,h1,by omega,fun hl=>?_⟩;obtain⟨y,e,hy,hc⟩:=h2 hl;refine⟨y,e,hy,fun j hj=>?_⟩;obtain⟨z,hz,hi⟩:=hc j hj;exact⟨z,((x.alloc _).cell (by rw[add_block];exact hy)).trans hz,hi⟩
theorem J7:(prog.info? 51).map (fun i=>(i.zero,i.size,i.bytes))=some (some (.agg #[.int .i64 0,.int .i64 0,.string ⟨#[]⟩,.int .i64 0]),4,40):=by kernel_rfl
theorem Av:prog.underlying 25=some (.slice 51):=by kernel_rfl
theorem Ext.grownN{a w:World}(h:Ext a w):a.grownBy w none:=by
 have g:=h.chg (fun _=>False);exact⟨g.os,g.tape,g.output,g.size,fun k hk _=>h.block hk⟩
theorem Ek{w w':World}{base:Nat}{e:TypeId}{size:Nat}{v:Value}{n:Nat}{xs:List Value}(h:w.ownsRow base e size v n xs)(x:Ext w w'):w'.ownsRow base e size v n xs :=
 h.kept x.grownN (Decidable.em _)
theorem lt_of_cell{w:World}{p:Addr}{v:Value}(h:w.cell? p=some v):p.block<w.heap.size:=by
 rcases Zff p.block w.heap.size with hlt|hge
 ·exact hlt
 simp[World.cell?,Zdm hge]at h
def Kt(rs:List Rc):List Value:=rs.flatMap Rc.cells
theorem Zrr(rs:List Rc):(Kt rs).length=rs.length*4:=by
 induction rs with
 | nil=>rfl
 | cons r rs ih=>simp[Kt,Rc.cells]at ih⊢;omega
theorem Fu(rs:List Rc)(r:Rc):Kt (rs++[r])=Kt rs++r.cells:=by simp[Kt]
theorem Zn6(rs:List Rc){k:Nat}(hk:k<rs.length)(j:Nat)(hj:j<4):(Kt rs)[k*4+j]?=(rs.getD k default).cells[j]?:=by
 induction rs generalizing k with
 | nil=>simp at hk
 | cons r rs ih =>
  have e:Kt (r::rs)=r.cells++Kt rs:=by simp[Kt]
  rw[e];cases k with
  | zero=>rw[Ze (by simp[Rc.cells];omega)];simp
  | succ k =>
   rw[Zd (by simp[Rc.cells];omega)];have:=ih (k:=k) (by simpa using hk);have e2:(k+1)*4+j-r.cells.length=k*4+j:=by simp[Rc.cells];omega
   rw[e2,this];simp
theorem Br(g n:Nat):(⟨g,0,none⟩:Addr).add n=⟨g,n,none⟩:=by
 unfold Addr.add;by_cases hn:n=0<;>simp[hn]
theorem Wv{w:World}{base:Nat}{e:TypeId}{size:Nat}{v:Value}{n:Nat}{xs:List Value}(h:w.ownsRow base e size v n xs):∃ a c,v=.slice a n c:=by
 obtain⟨_,⟨rfl,rfl⟩ | ⟨g,cap,_,rfl,_⟩⟩:=h
 ·exact⟨_,_,rfl⟩
 exact⟨_,_,rfl⟩
def Rd(w:World)(S:Nat→Prop)(z:Nat)(v:Value)(n:Nat)(xs:List Value):Prop :=
 xs.length=n*z∧∃ A c,v=.slice A n c∧n≤c∧c≤maxLen∧(0<n→∃ g o,A=some ⟨g,o,none⟩∧S g∧g<w.heap.size∧∀ j u,xs[j]?=some u→w.cell? ⟨g,o+j,none⟩=some u)
section
variable {w w':World} {S T:Nat→Prop} {z n:Nat} {v:Value} {xs:List Value}
theorem Rd.nil(w:World)(S:Nat→Prop)(z:Nat):Rd w S z (.slice none 0 0) 0 []:=⟨by simp,none,0,rfl,Ym _,Zgf _,fun h=>absurd h (by omega)⟩
theorem Rd.keep(h:Rd w S z v n xs)(hs:w.heap.size≤w'.heap.size)(hk:∀ k,S k→k<w.heap.size→w'.heap[k]?=w.heap[k]?):Rd w' S z v n xs:=by
 obtain⟨h1,A,c,rfl,h2,h3,h4⟩:=h;refine⟨h1,A,c,rfl,h2,h3,fun hn=>?_⟩;obtain⟨g,o,e,hS,hg,hc⟩:=h4 hn;exact⟨g,o,e,hS,Zgp hg hs,fun j u hu=>(Zfc (a:=⟨g,o+j,none⟩) (hk g hS hg)).trans (hc j u hu)⟩
theorem Rd.chg(h:Rd w S z v n xs)(c:Chg T w w')(hd:∀ k,S k→¬ T k):Rd w' S z v n xs:=h.keep c.size fun k hS hk=>c.block k hk (hd k hS)
theorem Rd.ext(h:Rd w S z v n xs)(x:Ext w w'):Rd w' S z v n xs:=h.keep x.size fun _ _ hk=>x.block hk
theorem Rd.drew(h:Rd w S z v n xs):Rd w.drew S z v n xs:=h
theorem Rd.mono(h:Rd w S z v n xs)(hST:∀ k,S k→k<w.heap.size→T k):Rd w T z v n xs:=by
 obtain⟨h1,A,c,rfl,h2,h3,h4⟩:=h;refine⟨h1,A,c,rfl,h2,h3,fun hn=>?_⟩;obtain⟨g,o,e,hS,hg,hc⟩:=h4 hn;exact⟨g,o,e,hST g hS hg,hg,hc⟩
theorem Rd.len(h:Rd w S z v n xs):n≤maxLen:=by
 obtain⟨_,A,c,_,h2,h3,_⟩:=h;omega
theorem Rd.at_(h:Rd w S z v n xs){k:Nat}(hk:k<n):∃ g o c,v=.slice (some ⟨g,o,none⟩) n c∧n≤c∧c≤maxLen∧S g∧g<w.heap.size∧∀ j u,xs[j]?=some u→w.cell? ⟨g,o+j,none⟩=some u:=by
 obtain⟨h1,A,c,rfl,h2,h3,h4⟩:=h;obtain⟨g,o,rfl,hS,hg,hc⟩:=h4 (by omega);exact⟨g,o,c,rfl,h2,h3,hS,hg,hc⟩
theorem Rd.of_own{base:Nat}{e:TypeId}(h:w.ownsRow base e z v n xs)(hS:∀ k,v.ownBlock=some k→S k):Rd w S z v n xs:=by
 have hc:=fun g hg=>h.cells (g:=g) hg
 have hl:=h.lt;obtain⟨hlen,⟨hv,h0⟩ | ⟨g,cap,cur,hv,_,hb,hn,hm,_⟩⟩:=h
 ·subst h0 hv;have hx:xs=[]:=Zgb (by simpa using hlen);subst hx;exact Rd.nil _ _ _
 refine⟨hlen,_,cap,hv,hn,hm,fun _=>⟨g,0,rfl,hS g (by rw[hv];rfl),(hl g (by rw[hv];rfl)).2,fun j u hu=>?_⟩⟩;have:=hc g (by rw[hv];rfl) j u hu;rw[Br]at this;rw[Zg7];exact this
end
section
variable {P:Program} (w:World)
theorem Oe(base:Nat)(t ty e:TypeId)(i:TypeInfo)(size:Nat)(ht:P.underlying t=some (.slice e))(hi:P.info? e=some i)
 (v:Value) (n:Nat) (xs:List Value) (hown:w.ownsRow base e size v n xs) (c:Nat):(Builtin.append_ #[t,t] ty #[v,.slice none 0 c]).run P w=.ok v w:=by
 rcases hown.2 with⟨rfl,rfl⟩ | ⟨g,cap,cur,rfl,_,_,hnc,_⟩
 ·simp[Builtin.append_,run_underlying ht,sizeOf,typeInfo,hi,Builtin.lenOf,Builtin.firstCells]
 simp[Builtin.append_,run_underlying ht,sizeOf,typeInfo,hi,Builtin.lenOf,Builtin.firstCells,hnc,storeCells]
structure Bu(w:World)(base:Nat)(e:TypeId)(size:Nat)(v:Value)(k:Nat)(ys:List Value)(v':Value)(w':World):Prop where
 own:w'.ownsRow base e size v' k ys
 grown:w.grownBy w' v.ownBlock
 at_:v'.ownBlock=v.ownBlock∨v'.ownBlock=some w.heap.size
theorem To(base:Nat)(t ty e:TypeId)(i:TypeInfo)(z:Value)(size bytes:Nat)(ht:P.underlying t=some (.slice e))(hi:P.info? e=some i)(hz:i.zero=some z)
 (hsize:i.size=size) (hby:i.bytes=bytes) (hzs:z.cells.size=size) (hsz:0<size)
 (v:Value) (n:Nat) (xs:List Value) (hown:w.ownsRow base e size v n xs)
 (S:Nat→Prop) (x:Value) (m:Nat) (news:List Value) (hr:Rd w S size x m news) (h1:∀ u∈news,u.oneCell'=true)
 (h63:n+m≤maxLen) (hbytes:(n+m)*bytes≤140737488355328) (hbase:base≤w.heap.size) :
 ∃ v' w',(Builtin.append_ #[t,t] ty #[v,x]).run P w=.ok v' w'∧Bu w base e size v (n+m) (xs++news) v' w':=by
 obtain⟨hlen,A,c,rfl,_,_,hcells⟩:=hr;rcases Zfs m with h0|h0
 ·subst h0;have hn:news=[]:=Zgb (by simpa using hlen);subst hn;cases A with
  | none=>exact⟨v,w,Oe w base t ty e i size ht hi v n xs hown c,by simpa using hown,World.grownBy.refl w _,.inl rfl⟩
  | some ad =>
   obtain⟨v',w',hrun,h2,h3,_,h5⟩:=run_append_own_at (P:=P) w base t ty e i z size bytes ht hi hz hsize hby hzs hsz v n xs hown ad 0 c [] (by simp) (by simp) h1 h63 hbytes hbase;exact⟨v',w',hrun,h2,h3,h5⟩
 obtain⟨g,o,rfl,_,_,hc⟩:=hcells h0;obtain⟨v',w',hrun,h2,h3,_,h5⟩:=run_append_own_at (P:=P) w base t ty e i z size bytes ht hi hz hsize hby hzs hsz v n xs hown ⟨g,o,none⟩ m c news hlen (fun j u hu=>by
  have e:(⟨g,o,none⟩:Addr).add j=⟨g,o+j,none⟩:=by unfold Addr.add;by_cases hj:j=0<;>simp[hj]
  rw[e];exact hc j u hu) h1 h63 hbytes hbase
 exact⟨v',w',hrun,h2,h3,h5⟩
theorem Kf{o:Oper}{a:Act}{K:Act→World→Prop}{Q:Exit→Act→World→Prop}(s y:Operand)(t:TypeId)
 (ho:o.op=.call {callee:=.builtin .append,args:=#[s,y],argTypes:=#[t,t]})
 (base:Nat) (e:TypeId) (i:TypeInfo) (z:Value) (size bytes:Nat) (ht:P.underlying t=some (.slice e)) (hi:P.info? e=some i) (hz:i.zero=some z)
 (hsize:i.size=size) (hby:i.bytes=bytes) (hzs:z.cells.size=size) (hsz:0<size)
 (v:Value) (n:Nat) (xs:List Value) (hs:a.eval s=v) (hown:w.ownsRow base e size v n xs)
 (S:Nat→Prop) (x:Value) (m:Nat) (news:List Value) (hx:a.eval y=x) (hr:Rd w S size x m news) (h1:∀ u∈news,u.oneCell'=true)
 (h63:n+m≤maxLen) (hbytes:(n+m)*bytes≤140737488355328) (hbase:base≤w.heap.size)
 (h:∀ v' w',Bu w base e size v (n+m) (xs++news) v' w'→K (a.put o.dst v') w'):o.wp P a w K Q:=by
 obtain⟨v',w',hrun,h2⟩:=To (P:=P) w base t o.type e i z size bytes ht hi hz hsize hby hzs hsz v n xs hown S x m news hr h1 h63 hbytes hbase;unfold Oper.wp execOp;simp only[ho,resolve,invoke,builtin,Zcx,Zcw,Ze6,List.map_toArray,Zg4,Zfv,hs,hx,hrun];exact h v' w' h2
theorem Vu{ops:Array Oper}{rest:List Oper}{o:Oper}{a:Act}{Q:Exit→Act→World→Prop}(hgd:o.guard=none)(s y:Operand)(t:TypeId)
 (ho:o.op=.call {callee:=.builtin .append,args:=#[s,y],argTypes:=#[t,t]})
 (base:Nat) (e:TypeId) (i:TypeInfo) (z:Value) (size bytes:Nat) (ht:P.underlying t=some (.slice e)) (hi:P.info? e=some i) (hz:i.zero=some z)
 (hsize:i.size=size) (hby:i.bytes=bytes) (hzs:z.cells.size=size) (hsz:0<size)
 (v:Value) (n:Nat) (xs:List Value) (hs:a.eval s=v) (hown:w.ownsRow base e size v n xs)
 (S:Nat→Prop) (x:Value) (m:Nat) (news:List Value) (hx:a.eval y=x) (hr:Rd w S size x m news) (h1:∀ u∈news,u.oneCell'=true)
 (h63:n+m≤maxLen) (hbytes:(n+m)*bytes≤140737488355328) (hbase:base≤w.heap.size)
 (h:∀ v' w',Bu w base e size v (n+m) (xs++news) v' w'→wpList P ops Q rest (a.put o.dst v') w'):wpList P ops Q (o::rest) a w :=
 Zdd hgd fun _ hK=>Kf w s y t ho base e i z size bytes ht hi hz hsize hby hzs hsz v n xs hs hown S x m news hx hr h1 h63 hbytes hbase fun v' w' h2=>hK _ _ (h v' w' h2)
theorem Ex{ops:Array Oper}{o:Oper}{a:Act}{K:Act→World→Prop}{Q:Exit→Act→World→Prop}{E:Prop}(hgd:o.guard=none)(s y:Operand)(t:TypeId)
 (ho:o.op=.call {callee:=.builtin .append,args:=#[s,y],argTypes:=#[t,t]})
 (base:Nat) (e:TypeId) (i:TypeInfo) (z:Value) (size bytes:Nat) (ht:P.underlying t=some (.slice e)) (hi:P.info? e=some i) (hz:i.zero=some z)
 (hsize:i.size=size) (hby:i.bytes=bytes) (hzs:z.cells.size=size) (hsz:0<size)
 (v:Value) (n:Nat) (xs:List Value) (hs:a.eval s=v) (hown:w.ownsRow base e size v n xs)
 (S:Nat→Prop) (x:Value) (m:Nat) (news:List Value) (hx:a.eval y=x) (hr:Rd w S size x m news) (h1:∀ u∈news,u.oneCell'=true)
 (h63:n+m≤maxLen) (hbytes:(n+m)*bytes≤140737488355328) (hbase:base≤w.heap.size)
 (h:∀ v' w',Bu w base e size v (n+m) (xs++news) v' w'→K (a.put o.dst v') w') :
 if Region.wanted o (yielded ops a.tmps)=true then Oper.wp P o a w K Q else E:=by
 have hw:Region.wanted o (yielded ops a.tmps)=true:=by simp[Region.wanted,hgd]
 rw[Zgn hw];exact Kf w s y t ho base e i z size bytes ht hi hz hsize hby hzs hsz v n xs hs hown S x m news hx hr h1 h63 hbytes hbase h
end
section
variable {P:Program} {ops:Array Oper} {Q:Exit→Act→World→Prop} {md:Region.Mode} {S:World→Prop}
def Td(P:Program)(ops:Array Oper)(Q:Exit→Act→World→Prop)(z:Nat):Exit→Act→World→Prop
 | .normal,a,w=>wpOp P ops Q z (fun a' w'=>Q .normal a' w') a w
 | e,a,w=>Q e a w
theorem Zob{z:Nat}{o:Oper}{a:Act}{w:World}{K:Act→World→Prop}(h:o.wp P a w K (Td P ops Q z)):o.wp P a w K Q:=by
 unfold Oper.wp at *;generalize (execOp a.eval o).run P w=r at *;cases r with
 | ok n w' =>
  cases n<;>simp only[Oper.upon]at h⊢ <;>
   first
    | exact h
    | exact Zc1 h (fun e w'' he=>by
     cases e with
     | returned v=>exact he
     | panicked c=>exact he
     | outgrown=>obtain⟨a,w,hq⟩:=he;exact⟨a,w,hq⟩)
    | exact Rows.mono h (fun _ _ he=>he)
 | halt x w'=>cases x<;>simp only[Oper.upon]at h⊢<;>exact h
theorem Zxd{z i:Nat}{a:Act}{w:World}{K:Act→World→Prop}(h:wpOp P ops (Td P ops Q z) i K a w):wpOp P ops Q i K a w:=by
 unfold wpOp at *;split
 ·simpa[*]using h
 rename_i o ho;simp only[ho]at h;split
 ·rename_i hw;simp only[hw,Zc6]at h;rcases h with h | ⟨h1,a',w',h2⟩
  ·exact .inl (Zob h)
  exact .inr ⟨h1,a',w',h2⟩
 rename_i hw;simp only[hw]at h;exact h
def Zj1(md:Region.Mode)(ops:Array Oper)(z:Nat):Bool :=
 (List.range ops.size).all fun j=>(j==z||((ops[z]?).map fun o=>o.after.any fun e=>Region.binds md e&&e.on==j).getD false)&&((ops[j]?).map fun o=>o.after.all fun e=>!Region.binds md e||decide (e.on<j)).getD false
theorem mem_ready{listed:Array Bool}{i:Nat}:i∈Region.ready md ops listed↔i<ops.size∧listed.getD i true=false∧∃ o,ops[i]?=some o∧∀ e∈o.after,Region.binds md e=true→listed.getD e.on false=true:=by
 unfold Region.ready;simp only[Ze3,Zf8,Zgc,Zex];constructor
 ·rintro⟨h1,h2,h3⟩;refine⟨h1,h2,ops[i],Zgj h1,?_⟩;rw[Zgj h1]at h3;simp only[Zev,Zed,Zfa,Zei,Zex]at h3;intro e he hb;rcases h3 e he with h|h
  ·rw[hb]at h;simp at h
  exact h
 rintro⟨h1,h2,o,ho,h3⟩;refine⟨h1,h2,?_⟩;rw[ho];simp only[Zev,Zed,Zfa,Zei,Zex];intro e he;cases hb:Region.binds md e with
 | false=>exact .inl rfl
 | true=>exact .inr (h3 e he hb)
theorem Ki{listed:Array Bool}{i j:Nat}{d:Bool}:(listed.setIfInBounds i true).getD j d=if i=j∧j<listed.size then true else listed.getD j d:=by
 simp only[Zge,Zd3];by_cases h:i=j
 ·subst h;by_cases h2:i<listed.size<;>simp[h2]
 simp[h]
theorem Ztr{z:Nat}(hz:z<ops.size)(hB:Zj1 md ops z=true):∀ (fuel:Nat) (listed:Array Bool) (a:Act) (w:World),listed.size=ops.size→listed.getD z true=false →
 wpAnyH P md ops (Td P ops Q z) S fuel (listed.setIfInBounds z true) a w→wpAny P md ops Q (fuel+1) listed a w:=by
 have hB':=hB;simp only[Zj1,Zfl,Zf8,Zgc,Zei,Zc0]at hB';have hall:∀ j,j<ops.size→j≠z→∀ oz,ops[z]?=some oz→∃ e∈oz.after,Region.binds md e=true∧e.on=j:=fun j hj hne oz hoz=>by
  rcases(hB' j hj).1 with h|h
  ·exact absurd h hne
  rw[hoz]at h;simp only[Zev,Zed,Zcv]at h;obtain⟨e,he,h⟩:=h;simp only[Zgc,Zc0]at h;exact⟨e,he,h⟩
 have hbef:∀ j,j<ops.size→∀ o,ops[j]?=some o→∀ e∈o.after,Region.binds md e=true→e.on<j:=fun j hj o ho e he hb=>by
  have h:=(hB' j hj).2;rw[ho]at h;simp only[Zev,Zed,Zfa,Zei,Zex,Zgh]at h;rcases h e he with h|h
  ·rw[hb]at h;simp at h
  exact h
 have F1:∀ listed:Array Bool,listed.size=ops.size→listed.getD z true=false→Region.ready md ops listed≠[]:=fun listed hs hzl h0=>by
  have hj:∀ j,j<ops.size→listed.getD j true=true:=fun j=>by
   induction j using Nat.strongRecOn with
   | _ j ih =>
    intro hj;cases hl:listed.getD j true with
    | true=>rfl
    | false =>
     exfalso;have:j∈Region.ready md ops listed:=mem_ready.2 ⟨hj,hl,ops[j],Zgj hj,fun e he hb=>by
      have h1:=hbef j hj _ (Zgj hj) e he hb;have h2:=ih e.on h1 (by omega);simp only[Zge]at h2⊢;rw[Zgj (by omega)]at h2⊢;exact h2⟩
     rw[h0]at this;simp at this
  rw[hj z hz]at hzl;simp at hzl
 have F2:∀ (listed:Array Bool) i,listed.size=ops.size→i≠z→i∈Region.ready md ops listed→i∈Region.ready md ops (listed.setIfInBounds z true):=fun listed i hs hne hi=>by
  obtain⟨h1,h2,o,h3,h4⟩:=mem_ready.1 hi;refine mem_ready.2 ⟨h1,by rw[Ki,Zgq (fun h=>hne h.1.symm)];exact h2,o,h3,fun e he hb=>?_⟩;rw[Ki];split
  ·rfl
  exact h4 e he hb
 have F3:∀ listed:Array Bool,listed.size=ops.size→z∈Region.ready md ops listed→Region.ready md ops (listed.setIfInBounds z true)=[]:=fun listed hs hi=>by
  obtain⟨h1,h2,o,h3,h4⟩:=mem_ready.1 hi;rw[Zf3];intro j hj;obtain⟨j1,j2,_⟩:=mem_ready.1 hj;rw[Ki]at j2;by_cases hjz:z=j
  ·rw[Zgn ⟨hjz,by omega⟩]at j2;simp at j2
  rw[Zgq (fun h=>hjz h.1)]at j2;obtain⟨e,he,hb,hon⟩:=hall j j1 (fun h=>hjz h.symm) o h3;have h5:=h4 e he hb;rw[hon]at h5;simp only[Zge]at h5 j2;rw[Zgj (by omega)]at h5 j2;simp at h5 j2;rw[h5]at j2;simp at j2
 intro fuel
 induction fuel with
 | zero =>
  rintro listed a w hs hzl ⟨hr,hq⟩;refine⟨fun h=>absurd h (F1 listed hs hzl),fun i hi=>?_⟩;by_cases hiz:i=z
  ·subst hiz;exact Zcd (fun a' w' h=>⟨F3 listed hs hi,h⟩) hq
  have:=F2 listed i hs hiz hi;rw[hr]at this;simp at this
 | succ fuel ih =>
  rintro listed a w hs hzl ⟨hr,hq⟩;refine⟨fun h=>absurd h (F1 listed hs hzl),fun i hi=>?_⟩;by_cases hiz:i=z
  ·subst hiz;have h0:=F3 listed hs hi;exact Zcd (fun a' w' h=>⟨fun _=>h,by rw[h0];simp⟩) (hr h0)
  have h1:=hq i (F2 listed i hs hiz hi);refine Zcd (fun a' w' h=>?_) (Zxd h1);refine ih (listed.setIfInBounds i true) a' w' (by simp[hs]) (by rw[Ki,Zgq (fun h=>hiz h.1)];exact hzl) ?_;rw[Array.setIfInBounds_comm true true hiz];exact h.2
theorem Zsq{z:Nat}{o:Oper}{a:Act}{w:World}(ho:ops[z]?=some o)(hw:Region.wanted o (yielded ops a.tmps)=true)(h:o.wp P a w (fun a' w'=>Q .normal a' w') Q):Td P ops Q z .normal a w:=by
 show wpOp P ops Q z (fun a' w'=>Q .normal a' w') a w;unfold wpOp;rw[ho];simp only[hw,Zc6];exact .inl h
theorem Pf{id:Nat}{a:Act}{w:World}(z n:Nat)(hn:ops.size=n+1)(hz:z<ops.size)(hB:Zj1 .any ops z=true)(hm:P.follows .mixedOrders=true)(hS:S w.drew)
 (h:S w.drew→wpAnyH P .any ops (Td P ops Q z) S n ((Array.replicate ops.size false).setIfInBounds z true) a w.drew):(Code.region id ops true).wp P Q a w:=by
 refine wp_region_any hm ?_;rw[hn];have h2:=h hS;rw[hn]at h2;have hz':z<n+1:=hn▸hz;exact Ztr hz hB n _ a _ (by simp[hn]) (by simp[Zge,hz']) h2
end
open Go.Maps (Tidy IsMap)
abbrev Kp:=ByteArray×Rc
def kb(k:ByteArray):List UInt8:=k.data.toList
theorem Nn{a b:ByteArray}(h:kb a=kb b):a=b:=Zd2 (Zc9 h)
theorem Zr7{a b:ByteArray}(h:a≠b):kb a<kb b∨kb b<kb a:=by
 rcases List.le_total (kb a) (kb b)with h1|h1
 ·exact .inl (Ui h1 fun e=>h (Nn e))
 exact .inr (Ui h1 fun e=>h (Nn e).symm)
def Xd:List Kp→ByteArray→Rc
 | [],_=>default
 | p::l,k=>if p.1=k then p.2 else Xd l k
def Vr(k:ByteArray)(r:Rc):Bool→List Kp→List Kp
 | true,[]=>[]
 | false,[]=>[(k,r)]
 | d,p::l=>if p.1=k then Vr k r d l else if d=false∧kb k<kb p.1 then(k,r)::p::Vr k r true l else p::Vr k r d l
def Jb(l:List Kp)(k:ByteArray)(r:Rc):List Kp:=Vr k r (r.st==0) l
def Aq(l:List Kp):Prop:=l.Pairwise (fun a b=>kb a.1<kb b.1)
theorem Vk{k:ByteArray}{r:Rc}{p:Kp}:∀ {l:List Kp} {d:Bool},p∈Vr k r d l↔(p∈l∧p.1≠k)∨(d=false∧p=(k,r))
 | [],true=>by simp[Vr]
 | [],false=>by simp[Vr]
 | q::l,d=>by
  rw[Vr];split
  ·rename_i hq;rw[Vk];constructor
   ·rintro(⟨h1,h2⟩|h)
    ·exact .inl ⟨Zel _ h1,h2⟩
    exact .inr h
   rintro(⟨h1,h2⟩|h)
   ·rcases Zg.1 h1 with h1|h1
    ·subst h1;exact absurd hq h2
    exact .inl ⟨h1,h2⟩
   exact .inr h
  rename_i hq;split
  ·rename_i hd;simp only[Zg,Vk (d:=true),Bool.true_eq_false,false_and,Zfi];constructor
   ·rintro(h|h | ⟨h1,h2⟩)
    ·exact .inr ⟨hd.1,h⟩
    ·subst h;exact .inl ⟨.inl rfl,hq⟩
    exact .inl ⟨.inr h1,h2⟩
   rintro(⟨h1|h1,h2⟩ | ⟨_,h⟩)
   ·exact .inr (.inl h1)
   ·exact .inr (.inr ⟨h1,h2⟩)
   exact .inl h
  simp only[Zg,Vk (d:=d)];constructor
  ·rintro(h | ⟨h1,h2⟩|h)
   ·subst h;exact .inl ⟨.inl rfl,hq⟩
   ·exact .inl ⟨.inr h1,h2⟩
   exact .inr h
  rintro(⟨h1|h1,h2⟩|h)
  ·exact .inl h1
  ·exact .inr (.inl ⟨h1,h2⟩)
  exact .inr (.inr h)
theorem Q7{k:ByteArray}{r:Rc}:∀ {l:List Kp} {d:Bool},Aq l→Aq (Vr k r d l)
 | [],true,_=>by simp[Vr,Aq]
 | [],false,_=>by simp[Vr,Aq]
 | q::l,d,h=>by
  obtain⟨h1,h2⟩:=Zg5.1 h;rw[Vr];split
  ·exact Q7 h2
  rename_i hq;split
  ·rename_i hd;refine Zg5.2 ⟨fun p hp=>?_,Zg5.2 ⟨fun p hp=>?_,Q7 h2⟩⟩
   ·rcases Zg.1 hp with hp|hp
    ·subst hp;exact hd.2
    rcases Vk.1 hp with⟨hp,_⟩ | ⟨hf,_⟩
    ·exact Zet hd.2 (h1 p hp)
    simp at hf
   rcases Vk.1 hp with⟨hp,_⟩ | ⟨hf,_⟩
   ·exact h1 p hp
   simp at hf
  rename_i hd;refine Zg5.2 ⟨fun p hp=>?_,Q7 h2⟩;rcases Vk.1 hp with⟨hp,_⟩ | ⟨hf,hp⟩
  ·exact h1 p hp
  subst hp;rcases Zr7 hq with hl|hl
  ·exact hl
  exact absurd ⟨hf,hl⟩ hd
theorem Qp{k:ByteArray}{r:Rc}:∀ {l:List Kp} {d:Bool},Xd (Vr k r d l) k=if d then default else r
 | [],true=>by simp[Vr,Xd]
 | [],false=>by simp[Vr,Xd]
 | q::l,d=>by
  rw[Vr];split
  ·exact Qp
  rename_i hq;split
  ·rename_i hd;simp[Xd,hd.1]
  rw[Xd,Zgq hq];exact Qp
theorem Vc{k k':ByteArray}{r:Rc}(hne:k'≠k):∀ {l:List Kp} {d:Bool},Xd (Vr k r d l) k'=Xd l k'
 | [],true=>by simp[Vr,Xd]
 | [],false=>by simp[Vr,Xd,Ne.symm hne]
 | q::l,d=>by
  rw[Vr];split
  ·rename_i hq;rw[Vc hne,Xd,Zgq (by rw[hq];exact fun e=>hne e.symm)]
  rename_i hq;split
  ·rw[Xd,Zgq (fun e=>hne e.symm),Xd,Xd];split
   ·rfl
   exact Vc hne
  rw[Xd,Xd];split
  ·rfl
  exact Vc hne
theorem Ge{k:ByteArray}{r:Rc}:∀ {l:List Kp} {d:Bool},Aq l→(Vr k r d l).length+(if ∃ p∈l,p.1=k then 1 else 0)=l.length+(if d then 0 else 1)
 | [],true,_=>by simp[Vr]
 | [],false,_=>by simp[Vr]
 | q::l,d,h=>by
  obtain⟨h1,h2⟩:=Zg5.1 h;have ih:=fun d=>Ge (k:=k) (r:=r) (d:=d) h2
  rw[Vr];split
  ·rename_i hq;have hno:¬ ∃ p∈l,p.1=k:=by
    rintro⟨p,hp,e⟩;have:=h1 p hp;rw[e,hq]at this;exact Zfq _ this
   have:=ih d;rw[Zgq hno]at this;rw[Zgn ⟨q,by simp,hq⟩];simp only[Zl];omega
  rename_i hq;have hiff:(∃ p∈q::l,p.1=k)↔∃ p∈l,p.1=k:=by simp[hq]
  split
  ·rename_i hd;have:=ih true;simp only[hiff,Zl,hd.1]at *;simp at this⊢;omega
  have:=ih d;simp only[hiff,Zl]at *;omega
def rcD(r:Rc):DataW Unit:=.agg [.lit (.int .i64 r.st),.lit (.int .i64 r.ow),.lit (.string r.nm.data.toList),.lit (.int .i64 r.dl)]
theorem Zim{a b:Rc}(h:rcD a=rcD b):a=b:=by
 obtain⟨a1,a2,a3,a4⟩:=a;obtain⟨b1,b2,b3,b4⟩:=b;simp only[rcD,DataW.agg.injEq,List.cons.injEq,DataW.lit.injEq,Lit.int.injEq,Lit.string.injEq,Zg0,Zfw]at h;obtain⟨h1,h2,h3,h4⟩:=h;have:=Nn h3;subst h1 h2 this h4;rfl
theorem Zye(k:ByteArray):WideAt.IsKeyLit (.string (kb k)):=by simp[WideAt.IsKeyLit]
structure Mo(D:DataW Unit)(l:List Kp):Prop where
 tidy:Tidy D
 asc:Aq l
 get:∀ k,D.atKey (.string (kb k)) (rcD default)=rcD (Xd l k)
 has:∀ k,Maps.has D (.string (kb k))=true↔∃ p∈l,p.1=k
 size:Maps.size D=l.length
theorem Mo.empty:Mo (.map []) []:=⟨Maps.tidy_empty,List.Pairwise.nil,fun _=>rfl,fun k=>by simp[Maps.has],rfl⟩
theorem Zwl{k k':ByteArray}(h:k'≠k):(Lit.string (kb k'))≠.string (kb k):=fun e=>by
 simp only[Lit.string.injEq]at e;exact h (Nn e)
theorem Mo.put{D:DataW Unit}{l:List Kp}(h:Mo D l)(k:ByteArray)(r:Rc)(hr:r.st≠0):Mo (D.put (.string (kb k)) (rcD r)) (Jb l k r):=by
 have hd:(r.st==0)=false:=by simpa using hr
 unfold Jb;rw[hd];have hm:=h.tidy.isMap;refine⟨h.tidy.put (Zye k) _,Q7 h.asc,fun k'=>?_,fun k'=>?_,?_⟩
 ·by_cases hk:k'=k
  ·subst hk;rw[Maps.atKey_put_same hm (Zye k'),Qp];simp
  rw[Maps.atKey_put_other (Zwl hk),h.get,Vc hk]
 ·by_cases hk:k'=k
  ·subst hk;rw[Maps.has_put_same hm (Zye k')];simp only[true_iff];exact⟨(k',r),Vk.2 (.inr ⟨rfl,rfl⟩),rfl⟩
  rw[Maps.has_put_other (Zwl hk),h.has];constructor
  ·rintro⟨p,hp,e⟩;exact⟨p,Vk.2 (.inl ⟨hp,by rw[e];exact hk⟩),e⟩
  rintro⟨p,hp,e⟩;rcases Vk.1 hp with⟨hp,_⟩ | ⟨_,hp⟩
  ·exact⟨p,hp,e⟩
  subst hp;exact absurd e.symm hk
 rw[Maps.size_put h.tidy,h.size];have:=Ge (k:=k) (r:=r) (d:=false) h.asc;have hh:=h.has k;cases hb:Maps.has D (.string (kb k))with
 | true=>rw[Zgn (hh.1 hb)]at this;simp at this⊢;omega
 | false=>rw[Zgq (fun e=>by rw[hh.2 e]at hb;simp at hb)]at this;simp at this⊢;omega
theorem Mo.del{D:DataW Unit}{l:List Kp}(h:Mo D l)(k:ByteArray)(r:Rc)(hr:r.st=0):Mo (D.del (.string (kb k))) (Jb l k r):=by
 have hd:(r.st==0)=true:=by simpa using hr
 unfold Jb;rw[hd];refine⟨h.tidy.del _,Q7 h.asc,fun k'=>?_,fun k'=>?_,?_⟩
 ·by_cases hk:k'=k
  ·subst hk;rw[Maps.atKey_del_same,Qp];simp
  rw[Maps.atKey_del_other (Zwl hk),h.get,Vc hk]
 ·by_cases hk:k'=k
  ·subst hk;rw[Maps.has_del_same];simp only[Ze0,false_iff];rintro⟨p,hp,e⟩;rcases Vk.1 hp with⟨_,hp⟩ | ⟨hf,_⟩
   ·exact hp e
   simp at hf
  rw[Maps.has_del_other (Zwl hk),h.has];constructor
  ·rintro⟨p,hp,e⟩;exact⟨p,Vk.2 (.inl ⟨hp,by rw[e];exact hk⟩),e⟩
  rintro⟨p,hp,e⟩;rcases Vk.1 hp with⟨hp,_⟩ | ⟨_,hp⟩
  ·exact⟨p,hp,e⟩
  subst hp;exact absurd e.symm hk
 have hs:=Maps.size_del (k:=.string (kb k)) h.tidy;have:=Ge (k:=k) (r:=r) (d:=true) h.asc;have hh:=h.has k;rw[h.size]at hs;cases hb:Maps.has D (.string (kb k))with
 | true=>rw[Zgn (hh.1 hb)]at this;rw[hb]at hs;simp at this hs⊢;omega
 | false=>rw[Zgq (fun e=>by rw[hh.2 e]at hb;simp at hb)]at this;rw[hb]at hs;simp at this hs⊢;omega
def Zx9(st ow dl:Int)(nm:ByteArray):Bool :=
 (st==0&&ow==0&&nm.size==0&&dl==0) ||
 (decide (0≤ow)&&decide (ow<64)&&decide (1≤nm.size)&&decide (nm.size≤63)&&((st==1&&decide (1≤dl)&&decide (dl≤1073741824))||(st==2&&dl==0)))
theorem Db{a b:Bool}(h:a=b):Ending.returned (.bool a)=.returned (.bool b):=by rw[h]
theorem Bn:(prog.info? 9).map (fun i=>(i.zero,i.size,i.bytes))=some (some (.string ⟨#[]⟩),1,16):=by kernel_rfl
theorem Zvy:prog.underlying 24=some (.slice 9):=by kernel_rfl
theorem Yf{p:Prop}[Decidable p](h:¬ p:=by omega):decide p=false:=decide_eq_false h
theorem Ye{p:Prop}[Decidable p](h:p:=by omega):decide p=true:=decide_eq_true h
theorem Yd(a:Option Addr)(b c:Nat)(a2:Option Addr)(b2 c2:Nat):(Value.slice a b c=Value.slice a2 b2 c2)=(a=a2∧b=b2∧c=c2):=Value.slice.injEq a b c a2 b2 c2
theorem Yc{A:Type _}(a b:A):(some a=some b)=(a=b):=Zdl a b
theorem Yb:(Value.tuple #[]:Value)=undef:=rfl
theorem Ya:(undef:Value)=.tuple #[]:=rfl
theorem xE{w w':World}(h:Ext w w':=by repeat'(first|exact Ext.refl _|assumption|apply Ext.alloc|apply Ext.drewN|apply Ext.drew|(refine Ext.trans ?_ (by assumption)))):Ext w w':=h
theorem wreX{P:Program}{id:Nat}{Q:Exit→Act→World→Prop}{a:Act}{w:World}{l:List Oper}(h:wpQuiet P l.toArray (fun w'=>∃ p:Vt,w'=later w p.n p.os) (fun a'=>∀ w',Ext w w'→Q .normal a' w') l a)(hm:P.follows .mixedOrders=true:=by kernel_rfl)(hB:Region.lexB .any l.toArray=true:=by kernel_rfl):(Code.region id l.toArray true).wp P Q a w:=Xz hm hB h
theorem rdoX{P:Program}{ops:Array Oper}{Q:Exit→Act→World→Prop}{S:World→Prop}{fuel:Nat}{listed:Array Bool}{a:Act}{w:World}{md:Region.Mode}(i:Nat){o:Oper}(h:∀ K':Act→World→Prop,Shut (∀ a w,S w→(S w→wpAnyH P md ops Q S fuel (listed.setIfInBounds i true) a w)→K' a w)→if Region.wanted o (yielded ops a.tmps)=true then Oper.wp P o a w K' Q else K' (a.put o.dst undef) w)(ho:ops[i]?=some o:=by rfl)(hr:Region.ready md ops listed=[i]:=by kernel_rfl):wpAnyH P md ops Q S (fuel+1) listed a w:=wpAnyH_ready hr (by simp) (Yr ho h Yq)
theorem rdyX{P:Program}{ops:Array Oper}{Q:Exit→Act→World→Prop}{S:World→Prop}{fuel:Nat}{listed:Array Bool}{a:Act}{w:World}{md:Region.Mode}{rs:List Nat}(h:AllReadyH P md ops Q S fuel listed a w rs)(hr:Region.ready md ops listed=rs:=by kernel_rfl)(hne:rs≠[]:=by simp):wpAnyH P md ops Q S (fuel+1) listed a w:=wpAnyH_ready hr hne h
theorem dneX{P:Program}{ops:Array Oper}{Q:Exit→Act→World→Prop}{S:World→Prop}{fuel:Nat}{listed:Array Bool}{a:Act}{w:World}{md:Region.Mode}(h:Q .normal a w)(hr:Region.ready md ops listed=[]:=by kernel_rfl):wpAnyH P md ops Q S fuel listed a w:=wpAnyH_done hr h fuel
theorem slcX{a a2:Option Addr}{b c b2 c2:Nat}(h:Value.slice a b c=Value.slice a2 b2 c2):a=a2∧b=b2∧c=c2:=Value.slice.inj h
end
def Yk:=@Ext.refl
def Yj:=@Ext.alloc
def Yi:=@Ext.drewN
def Yh:=@Ext.drew
def Yg:=@Ext.trans
