/-
  Both stores side by side in memory (26.1 to 26.4): the program's and its reference's; what both Puts, Gets, Lens, Slots, Keys do.
  Conditions: lengths within a process's reach.
-/
import Derived.Test.YtkhfjedeccjnbaaRec26
import Derived.Test.YtkhfjedeccjnbaaRShow
import Derived.Test.YtkhfjedeccjnbaaRSort
import Derived.Test.YtkhfjedeccjnbaaSKeys
import Derived.Test.YtkhfjedeccjnbaaSame
namespace Go.Proofs.Ytkhfjedeccjnbaa
open Go.RowKit Go.Sort
set_option maxHeartbeats 4000000

/-- Both stores in memory, in blocks of their own from B on; they hold the same; at most k records were put. -/
structure BothAt (B xb yb k : Nat) (wr : World) (g h n : Nat) (sl : Nat → Option ByteArray) (f : Nat → Rc) (u : Int) (S : Nat → Prop) (log : List (ByteArray × Rc)) : Prop where
  x : StoreAt wr xb g h n sl f u
  y : RStIs wr S yb n sl log (2049 * k)
  ok : StOk n sl u
  cpl : Cpl n sl f log
  len : log.length ≤ k
  gx : B ≤ xb
  gg : B ≤ g
  gh : B ≤ h
  gs : ∀ i, S i → B ≤ i
  nx : ¬ S xb
  ng : ¬ S g
  nh : ¬ S h
theorem BothAt.chg {B xb yb k : Nat} {wr w' : World} {g h n : Nat} {sl : Nat → Option ByteArray} {f : Nat → Rc} {u : Int} {S T : Nat → Prop} {log : List (ByteArray × Rc)} (b : BothAt B xb yb k wr g h n sl f u S log) (c : Chg T wr w') (hx : ¬ T xb) (hg : ¬ T g) (hh : ¬ T h) (hS : ∀ i, S i → ¬ T i) : BothAt B xb yb k w' g h n sl f u S log :=
  ⟨b.x.chg c hx hg hh, b.y.chg c hS, b.ok, b.cpl, b.len, b.gx, b.gg, b.gh, b.gs, b.nx, b.ng, b.nh⟩
theorem BothAt.ext {B xb yb k : Nat} {wr w' : World} {g h n : Nat} {sl : Nat → Option ByteArray} {f : Nat → Rc} {u : Int} {S : Nat → Prop} {log : List (ByteArray × Rc)} (b : BothAt B xb yb k wr g h n sl f u S log) (x : Ext wr w') : BothAt B xb yb k w' g h n sl f u S log :=
  b.chg (x.chg fun _ => False) (fun h => h) (fun h => h) (fun h => h) fun _ _ h => h
/-- Both Puts, one after the other. -/
theorem BothAt.put {B xb yb k : Nat} {wr w1 w2 : World} {g h n : Nat} {sl : Nat → Option ByteArray} {f : Nat → Rc} {u : Int} {S : Nat → Prop} {log : List (ByteArray × Rc)} (b : BothAt B xb yb k wr g h n sl f u S log) {key : ByteArray} (hk : key.size ≤ maxLen) {r : Rc}
    {code : Int} {n1 g1 h1 : Nat} {sl1 : Nat → Option ByteArray} {f1 : Nat → Rc} {u1 : Int} (hs : PutSpec n sl f u key r code n1 sl1 f1 u1) (hl : StoreAt w1 xb g1 h1 n1 sl1 f1 u1) (hgh : (g1 = g ∧ h1 = h) ∨ (wr.heap.size ≤ g1 ∧ wr.heap.size ≤ h1)) (hc : Chg (fun k => k = xb ∨ k = g ∨ k = h) wr w1)
    {code2 : Int} {n2 : Nat} {sl2 : Nat → Option ByteArray} {log2 : List (ByteArray × Rc)} {S2 : Nat → Prop} (hr : RPutSpec n sl u log key r code2 n2 sl2 log2) (hy : RStIs w2 S2 yb n2 sl2 log2 (2049 * k + 2049)) (hS2 : ∀ i, S2 i → S i ∨ w1.heap.size ≤ i) (hc2 : Chg S w1 w2) (hB : B ≤ wr.heap.size) :
    code2 = code ∧ BothAt B xb yb (k + 1) w2 g1 h1 n1 sl1 f1 u1 S2 log2 := by
  obtain ⟨rfl, rfl, rfl, o', c', hlen⟩ := both_put b.ok hk hs hr b.cpl
  have hlow := b.y.low
  have hz1 := hc.size
  have hz2 := hc2.size
  have e1 := hl.2.2.2.1
  have e2 : g1 < w1.heap.size := hl.2.2.2.2.2.2.2.2.1.1
  have e3 : h1 < w1.heap.size := hl.2.2.2.2.2.2.2.2.2.1
  have ng1 : ¬ S g1 := fun h => by
    rcases hgh with ⟨rfl, _⟩ | ⟨h3, _⟩
    · exact b.ng h
    · have := hlow _ h; omega
  have nh1 : ¬ S h1 := fun h => by
    rcases hgh with ⟨_, rfl⟩ | ⟨_, h3⟩
    · exact b.nh h
    · have := hlow _ h; omega
  have gg1 : B ≤ g1 := by have := b.gg; rcases hgh with ⟨rfl, _⟩ | ⟨h3, _⟩ <;> omega
  have gh1 : B ≤ h1 := by have := b.gh; rcases hgh with ⟨_, rfl⟩ | ⟨_, h3⟩ <;> omega
  refine ⟨rfl, hl.chg hc2 b.nx ng1 nh1, hy, o', c', by have := b.len; omega, b.gx, gg1, gh1, fun i hi => ?_, fun h => ?_, fun h => ?_, fun h => ?_⟩
  · rcases hS2 i hi with h | h
    · exact b.gs i h
    · omega
  · rcases hS2 _ h with h | h
    · exact b.nx h
    · omega
  · rcases hS2 _ h with h | h
    · exact ng1 h
    · omega
  · rcases hS2 _ h with h | h
    · exact nh1 h
    · omega
theorem BothAt.xget {B xb yb k : Nat} {wr : World} {g h n : Nat} {sl : Nat → Option ByteArray} {f : Nat → Rc} {u : Int} {S : Nat → Prop} {log : List (ByteArray × Rc)} (b : BothAt B xb yb k wr g h n sl f u S log) (key : ByteArray) (hk : key.size ≤ maxLen) :
    Calls Try.prog 70 #[.pointer (some ⟨xb, 0, none⟩), .string key] wr fun e w' => e = .returned (.agg #[.int .i64 (logGet log key).st, .int .i64 (logGet log key).ow, .string (logGet log key).nm, .int .i64 (logGet log key).dl]) ∧ Ext wr w' :=
  sget_val xb g h n sl f u key _ _ _ _ wr b.ok hk b.x (b.cpl key)
theorem BothAt.yget {B xb yb k : Nat} {wr : World} {g h n : Nat} {sl : Nat → Option ByteArray} {f : Nat → Rc} {u : Int} {S : Nat → Prop} {log : List (ByteArray × Rc)} (b : BothAt B xb yb k wr g h n sl f u S log) (hk : k ≤ 1000000) (key : ByteArray) :
    Calls Try.prog 71 #[.pointer (some ⟨yb, 0, none⟩), .string key] wr fun e w' => e = .returned (.agg #[.int .i64 (logGet log key).st, .int .i64 (logGet log key).ow, .string (logGet log key).nm, .int .i64 (logGet log key).dl]) ∧ Ext wr w' :=
  rget_any S yb n sl log _ key wr (by have := b.len; omega) b.y
theorem BothAt.xlen {B xb yb k : Nat} {wr : World} {g h n : Nat} {sl : Nat → Option ByteArray} {f : Nat → Rc} {u : Int} {S : Nat → Prop} {log : List (ByteArray × Rc)} (b : BothAt B xb yb k wr g h n sl f u S log) :
    Calls Try.prog 72 #[.pointer (some ⟨xb, 0, none⟩)] wr fun e w' => e = .returned (.int .i64 (cnt sl n : Nat)) ∧ wr = w' := by
  refine (slen_any xb g h n sl f u wr b.x).mono ?_
  rintro e w' ⟨rfl, rfl⟩
  exact ⟨by rw [b.ok.tab.num], rfl⟩
/-- The block to which the cell at the head of block b points. -/
def tOf (b : Nat) (w : World) : Nat := match w.cell? ⟨b, 0, none⟩ with
  | some (.pointer (some a)) => a.block
  | _ => 0
theorem BothAt.ytab {B xb yb k : Nat} {wr : World} {g h n : Nat} {sl : Nat → Option ByteArray} {f : Nat → Rc} {u : Int} {S : Nat → Prop} {log : List (ByteArray × Rc)} (b : BothAt B xb yb k wr g h n sl f u S log) :
    wr.cell? ⟨yb, 0, none⟩ = some (.pointer (some ⟨tOf yb wr, 0, none⟩)) ∧ Calls Try.prog 73 #[.pointer (some ⟨tOf yb wr, 0, none⟩)] wr fun e w' => e = .returned (.int .i64 (cnt sl n : Nat)) ∧ wr = w' := by
  obtain ⟨t, kv, rv, St, Sk, Sr, hC⟩ := b.y
  have e : tOf yb wr = t := by unfold tOf; rw [hC.c0]
  rw [e]
  exact ⟨hC.c0, rlen_any St t n sl _ wr (by have := b.ok.hi; omega) hC.tab⟩
theorem BothAt.ylow {B xb yb k : Nat} {wr : World} {g h n : Nat} {sl : Nat → Option ByteArray} {f : Nat → Rc} {u : Int} {S : Nat → Prop} {log : List (ByteArray × Rc)} (b : BothAt B xb yb k wr g h n sl f u S log) : yb < wr.heap.size := b.y.low yb b.y.sb
theorem BothAt.ylen {B xb yb k : Nat} {wr : World} {g h n : Nat} {sl : Nat → Option ByteArray} {f : Nat → Rc} {u : Int} {S : Nat → Prop} {log : List (ByteArray × Rc)} (b : BothAt B xb yb k wr g h n sl f u S log) {t : Nat} (ht : wr.cell? ⟨yb, 0, none⟩ = some (.pointer (some ⟨t, 0, none⟩))) :
    Calls Try.prog 73 #[.pointer (some ⟨t, 0, none⟩)] wr fun e w' => e = .returned (.int .i64 (cnt sl n : Nat)) ∧ wr = w' := by
  obtain ⟨h1, h2⟩ := b.ytab
  rw [ht] at h1
  simp only [Option.some.injEq, Value.pointer.injEq, Addr.mk.injEq, and_true] at h1
  rw [h1]; exact h2
/-- A condition on the worlds of a drawn region may be exchanged for a stronger one on the way. -/
theorem wpAnyH_mono {P : Program} {md : Region.Mode} {ops : Array Oper} {Q : Exit → Act → World → Prop} {S T : World → Prop} (h : ∀ w, S w → T w) : ∀ (fuel : Nat) (listed : Array Bool) (a : Act) (w : World), wpAnyH P md ops Q S fuel listed a w → wpAnyH P md ops Q T fuel listed a w
  | 0, _, _, _, hh => hh
  | fuel + 1, _, _, _, hh => ⟨hh.1, fun i hi => wpOp_mono (fun a' w' h' => ⟨h _ h'.1, wpAnyH_mono h fuel _ a' w' h'.2⟩) (hh.2 i hi)⟩
theorem RStIs.ycell {w : World} {S : Nat → Prop} {b n : Nat} {sl : Nat → Option ByteArray} {log : List (ByteArray × Rc)} {L : Nat} (h : RStIs w S b n sl log L) : w.cell? ⟨b, 0, none⟩ = some (.pointer (some ⟨tOf b w, 0, none⟩)) := by
  obtain ⟨t, kv, rv, St, Sk, Sr, hC⟩ := h
  have e : tOf b w = t := by unfold tOf; rw [hC.c0]
  rw [e]
  exact hC.c0
section
variable {B xb yb k : Nat} {wr : World} {g h n : Nat} {sl : Nat → Option ByteArray} {f : Nat → Rc} {u : Int} {S : Nat → Prop} {log : List (ByteArray × Rc)}
theorem BothAt.xslots (b : BothAt B xb yb k wr g h n sl f u S log) : Calls Try.prog 85 #[.pointer (some ⟨xb, 0, none⟩)] wr (NewRd 2 n (slotCells n sl) wr) :=
  sslots_any xb g h n sl f u wr (by have := b.ok.hi; omega) b.x
theorem BothAt.xkeys (b : BothAt B xb yb k wr g h n sl f u S log) : Calls Try.prog 87 #[.pointer (some ⟨xb, 0, none⟩)] wr (KeysPost (keysK sl (fun _ => true) n) wr) :=
  skeys_any xb g h n sl f u wr (by have := b.ok.hi; omega) b.x
theorem BothAt.yt (b : BothAt B xb yb k wr g h n sl f u S log) {t : Nat} (ht : wr.cell? ⟨yb, 0, none⟩ = some (.pointer (some ⟨t, 0, none⟩))) : ∃ St, TabIs wr St t n sl (2049 * k) := by
  obtain ⟨t', kv, rv, St, Sk, Sr, hC⟩ := b.y
  have := hC.c0
  rw [ht] at this
  simp only [Option.some.injEq, Value.pointer.injEq, Addr.mk.injEq, and_true] at this
  subst this
  exact ⟨St, hC.tab⟩
theorem BothAt.yshown (b : BothAt B xb yb k wr g h n sl f u S log) {t : Nat} (ht : wr.cell? ⟨yb, 0, none⟩ = some (.pointer (some ⟨t, 0, none⟩))) : Calls Try.prog 86 #[.pointer (some ⟨t, 0, none⟩)] wr (NewRd 2 n (slotCells n sl) wr) := by
  obtain ⟨St, hT⟩ := b.yt ht
  exact rshown_any St t n sl _ wr (by have := b.ok.hi; omega) hT
theorem BothAt.ysorted (b : BothAt B xb yb k wr g h n sl f u S log) {t : Nat} (ht : wr.cell? ⟨yb, 0, none⟩ = some (.pointer (some ⟨t, 0, none⟩))) : Calls Try.prog 88 #[.pointer (some ⟨t, 0, none⟩)] wr (KeysPost (keysK sl (fun _ => true) n) wr) := by
  obtain ⟨St, hT⟩ := b.yt ht
  refine (rsorted_any St t n sl _ u wr b.ok.hi b.ok.tab hT).mono ?_
  rintro e w' ⟨hs, ha, hm, h⟩
  rw [tab_sorted b.ok.tab ha hm]
  exact h
end
theorem far_next {sb z z1 g h g1 h1 : Nat} {S S2 : Nat → Prop} (hgh : (g1 = g ∧ h1 = h) ∨ (z ≤ g1 ∧ z ≤ h1)) (hz : sb < z) (hg : g ≠ sb) (hh : h ≠ sb) (hS : ∀ i, S i → i ≠ sb) (hS2 : ∀ i, S2 i → S i ∨ z1 ≤ i) (hz1 : sb < z1) : g1 ≠ sb ∧ h1 ≠ sb ∧ ∀ i, S2 i → i ≠ sb := by
  refine ⟨?_, ?_, fun i hi => ?_⟩
  · rcases hgh with ⟨rfl, _⟩ | ⟨q, _⟩
    · exact hg
    · omega
  · rcases hgh with ⟨_, rfl⟩ | ⟨_, q⟩
    · exact hh
    · omega
  · rcases hS2 i hi with h | h
    · exact hS i h
    · omega
end Go.Proofs.Ytkhfjedeccjnbaa
