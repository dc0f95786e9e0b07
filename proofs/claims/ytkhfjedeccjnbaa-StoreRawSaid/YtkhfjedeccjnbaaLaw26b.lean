/-
  The walk of StoreRaw: it returns true and changes nothing that was there.
  Conditions: the strings' lengths are those of Go strings.
-/
import Derived.Test.YtkhfjedeccjnbaaRec26
import Derived.Deep.RegionHeld3
import Derived.Deep.DeepCutAuto
namespace Go.Proofs.Ytkhfjedeccjnbaa
open Go.RowKit Go.Sort
set_option maxHeartbeats 4000000

/-- Both stores in memory, in blocks of their own from B on; they hold the same; at most k records were put. -/
structure BothAt (B xb yb k : Nat) (wr : World) (g h n : Nat) (sl : Nat → Option ByteArray) (f : Nat → Rc) (u : Int) (S : Nat → Prop) (log : List (ByteArray × Rc)) : Prop where
  x : StoreAt wr xb g h n sl f u
  y : RStIs wr S yb n sl log (2049 * k)
  ok : StOk n sl u
  cpl : Cpl n sl f log
  len : log.length ≤ k
  gx : B ≤ xb
  gg : B ≤ g
  gh : B ≤ h
  gs : ∀ i, S i → B ≤ i
  nx : ¬ S xb
  ng : ¬ S g
  nh : ¬ S h
theorem BothAt.chg {B xb yb k : Nat} {wr w' : World} {g h n : Nat} {sl : Nat → Option ByteArray} {f : Nat → Rc} {u : Int} {S T : Nat → Prop} {log : List (ByteArray × Rc)} (b : BothAt B xb yb k wr g h n sl f u S log) (c : Chg T wr w') (hx : ¬ T xb) (hg : ¬ T g) (hh : ¬ T h) (hS : ∀ i, S i → ¬ T i) : BothAt B xb yb k w' g h n sl f u S log :=
  ⟨b.x.chg c hx hg hh, b.y.chg c hS, b.ok, b.cpl, b.len, b.gx, b.gg, b.gh, b.gs, b.nx, b.ng, b.nh⟩
theorem BothAt.ext {B xb yb k : Nat} {wr w' : World} {g h n : Nat} {sl : Nat → Option ByteArray} {f : Nat → Rc} {u : Int} {S : Nat → Prop} {log : List (ByteArray × Rc)} (b : BothAt B xb yb k wr g h n sl f u S log) (x : Ext wr w') : BothAt B xb yb k w' g h n sl f u S log :=
  b.chg (x.chg fun _ => False) (fun h => h) (fun h => h) (fun h => h) fun _ _ h => h
/-- Both Puts, one after the other. -/
theorem BothAt.put {B xb yb k : Nat} {wr w1 w2 : World} {g h n : Nat} {sl : Nat → Option ByteArray} {f : Nat → Rc} {u : Int} {S : Nat → Prop} {log : List (ByteArray × Rc)} (b : BothAt B xb yb k wr g h n sl f u S log) {key : ByteArray} (hk : key.size ≤ maxLen) {r : Rc}
    {code : Int} {n1 g1 h1 : Nat} {sl1 : Nat → Option ByteArray} {f1 : Nat → Rc} {u1 : Int} (hs : PutSpec n sl f u key r code n1 sl1 f1 u1) (hl : StoreAt w1 xb g1 h1 n1 sl1 f1 u1) (hgh : (g1 = g ∧ h1 = h) ∨ (wr.heap.size ≤ g1 ∧ wr.heap.size ≤ h1)) (hc : Chg (fun k => k = xb ∨ k = g ∨ k = h) wr w1)
    {code2 : Int} {n2 : Nat} {sl2 : Nat → Option ByteArray} {log2 : List (ByteArray × Rc)} {S2 : Nat → Prop} (hr : RPutSpec n sl u log key r code2 n2 sl2 log2) (hy : RStIs w2 S2 yb n2 sl2 log2 (2049 * k + 2049)) (hS2 : ∀ i, S2 i → S i ∨ w1.heap.size ≤ i) (hc2 : Chg S w1 w2) (hB : B ≤ wr.heap.size) :
    code2 = code ∧ BothAt B xb yb (k + 1) w2 g1 h1 n1 sl1 f1 u1 S2 log2 := by
  obtain ⟨rfl, rfl, rfl, o', c', hlen⟩ := both_put b.ok hk hs hr b.cpl
  have hlow := b.y.low
  have hz1 := hc.size
  have hz2 := hc2.size
  have e1 := hl.2.2.2.1
  have e2 : g1 < w1.heap.size := hl.2.2.2.2.2.2.2.2.1.1
  have e3 : h1 < w1.heap.size := hl.2.2.2.2.2.2.2.2.2.1
  have ng1 : ¬ S g1 := fun h => by
    rcases hgh with ⟨rfl, _⟩ | ⟨h3, _⟩
    · exact b.ng h
    · have := hlow _ h; omega
  have nh1 : ¬ S h1 := fun h => by
    rcases hgh with ⟨_, rfl⟩ | ⟨_, h3⟩
    · exact b.nh h
    · have := hlow _ h; omega
  have gg1 : B ≤ g1 := by have := b.gg; rcases hgh with ⟨rfl, _⟩ | ⟨h3, _⟩ <;> omega
  have gh1 : B ≤ h1 := by have := b.gh; rcases hgh with ⟨_, rfl⟩ | ⟨_, h3⟩ <;> omega
  refine ⟨rfl, hl.chg hc2 b.nx ng1 nh1, hy, o', c', by have := b.len; omega, b.gx, gg1, gh1, fun i hi => ?_, fun h => ?_, fun h => ?_, fun h => ?_⟩
  · rcases hS2 i hi with h | h
    · exact b.gs i h
    · omega
  · rcases hS2 _ h with h | h
    · exact b.nx h
    · omega
  · rcases hS2 _ h with h | h
    · exact ng1 h
    · omega
  · rcases hS2 _ h with h | h
    · exact nh1 h
    · omega
theorem BothAt.xget {B xb yb k : Nat} {wr : World} {g h n : Nat} {sl : Nat → Option ByteArray} {f : Nat → Rc} {u : Int} {S : Nat → Prop} {log : List (ByteArray × Rc)} (b : BothAt B xb yb k wr g h n sl f u S log) (key : ByteArray) (hk : key.size ≤ maxLen) :
    Calls Try.prog 70 #[.pointer (some ⟨xb, 0, none⟩), .string key] wr fun e w' => e = .returned (.agg #[.int .i64 (logGet log key).st, .int .i64 (logGet log key).ow, .string (logGet log key).nm, .int .i64 (logGet log key).dl]) ∧ Ext wr w' :=
  sget_val xb g h n sl f u key _ _ _ _ wr b.ok hk b.x (b.cpl key)
theorem BothAt.yget {B xb yb k : Nat} {wr : World} {g h n : Nat} {sl : Nat → Option ByteArray} {f : Nat → Rc} {u : Int} {S : Nat → Prop} {log : List (ByteArray × Rc)} (b : BothAt B xb yb k wr g h n sl f u S log) (hk : k ≤ 1000000) (key : ByteArray) :
    Calls Try.prog 71 #[.pointer (some ⟨yb, 0, none⟩), .string key] wr fun e w' => e = .returned (.agg #[.int .i64 (logGet log key).st, .int .i64 (logGet log key).ow, .string (logGet log key).nm, .int .i64 (logGet log key).dl]) ∧ Ext wr w' :=
  rget_any S yb n sl log _ key wr (by have := b.len; omega) b.y
theorem BothAt.xlen {B xb yb k : Nat} {wr : World} {g h n : Nat} {sl : Nat → Option ByteArray} {f : Nat → Rc} {u : Int} {S : Nat → Prop} {log : List (ByteArray × Rc)} (b : BothAt B xb yb k wr g h n sl f u S log) :
    Calls Try.prog 72 #[.pointer (some ⟨xb, 0, none⟩)] wr fun e w' => e = .returned (.int .i64 (cnt sl n : Nat)) ∧ wr = w' := by
  refine (slen_any xb g h n sl f u wr b.x).mono ?_
  rintro e w' ⟨rfl, rfl⟩
  exact ⟨by rw [b.ok.tab.num], rfl⟩
/-- The block to which the cell at the head of block b points. -/
def tOf (b : Nat) (w : World) : Nat := match w.cell? ⟨b, 0, none⟩ with
  | some (.pointer (some a)) => a.block
  | _ => 0
theorem BothAt.ytab {B xb yb k : Nat} {wr : World} {g h n : Nat} {sl : Nat → Option ByteArray} {f : Nat → Rc} {u : Int} {S : Nat → Prop} {log : List (ByteArray × Rc)} (b : BothAt B xb yb k wr g h n sl f u S log) :
    wr.cell? ⟨yb, 0, none⟩ = some (.pointer (some ⟨tOf yb wr, 0, none⟩)) ∧ Calls Try.prog 73 #[.pointer (some ⟨tOf yb wr, 0, none⟩)] wr fun e w' => e = .returned (.int .i64 (cnt sl n : Nat)) ∧ wr = w' := by
  obtain ⟨t, kv, rv, St, Sk, Sr, hC⟩ := b.y
  have e : tOf yb wr = t := by unfold tOf; rw [hC.c0]
  rw [e]
  exact ⟨hC.c0, rlen_any St t n sl _ wr (by have := b.ok.hi; omega) hC.tab⟩
theorem BothAt.ylow {B xb yb k : Nat} {wr : World} {g h n : Nat} {sl : Nat → Option ByteArray} {f : Nat → Rc} {u : Int} {S : Nat → Prop} {log : List (ByteArray × Rc)} (b : BothAt B xb yb k wr g h n sl f u S log) : yb < wr.heap.size := b.y.low yb b.y.sb
theorem BothAt.ylen {B xb yb k : Nat} {wr : World} {g h n : Nat} {sl : Nat → Option ByteArray} {f : Nat → Rc} {u : Int} {S : Nat → Prop} {log : List (ByteArray × Rc)} (b : BothAt B xb yb k wr g h n sl f u S log) {t : Nat} (ht : wr.cell? ⟨yb, 0, none⟩ = some (.pointer (some ⟨t, 0, none⟩))) :
    Calls Try.prog 73 #[.pointer (some ⟨t, 0, none⟩)] wr fun e w' => e = .returned (.int .i64 (cnt sl n : Nat)) ∧ wr = w' := by
  obtain ⟨h1, h2⟩ := b.ytab
  rw [ht] at h1
  simp only [Option.some.injEq, Value.pointer.injEq, Addr.mk.injEq, and_true] at h1
  rw [h1]; exact h2
/-- A condition on the worlds of a drawn region may be exchanged for a stronger one on the way. -/
theorem wpAnyH_mono {P : Program} {md : Region.Mode} {ops : Array Oper} {Q : Exit → Act → World → Prop} {S T : World → Prop} (h : ∀ w, S w → T w) : ∀ (fuel : Nat) (listed : Array Bool) (a : Act) (w : World), wpAnyH P md ops Q S fuel listed a w → wpAnyH P md ops Q T fuel listed a w
  | 0, _, _, _, hh => hh
  | fuel + 1, _, _, _, hh => ⟨hh.1, fun i hi => wpOp_mono (fun a' w' h' => ⟨h _ h'.1, wpAnyH_mono h fuel _ a' w' h'.2⟩) (hh.2 i hi)⟩
theorem RStIs.ycell {w : World} {S : Nat → Prop} {b n : Nat} {sl : Nat → Option ByteArray} {log : List (ByteArray × Rc)} {L : Nat} (h : RStIs w S b n sl log L) : w.cell? ⟨b, 0, none⟩ = some (.pointer (some ⟨tOf b w, 0, none⟩)) := by
  obtain ⟨t, kv, rv, St, Sk, Sr, hC⟩ := h
  have e : tOf b w = t := by unfold tOf; rw [hC.c0]
  rw [e]
  exact hC.c0
/-- An array of six records. -/
def six (a b c d e f : Rc) : Value := .agg (a.cells ++ b.cells ++ c.cells ++ d.cells ++ e.cells ++ f.cells).toArray
theorem six_at (a b c d e f : Rc) (k : Nat) (hk : k < 6) : ∃ r : Rc, ∀ w, (Instr.index 72 (six a b c d e f) (.int .i64 (k : Int))).run Try.prog w = .ok (rcV r) w := by
  rcases (show k = 0 ∨ k = 1 ∨ k = 2 ∨ k = 3 ∨ k = 4 ∨ k = 5 by omega) with rfl | rfl | rfl | rfl | rfl | rfl
  · exact ⟨a, fun _ => by kernel_rfl⟩
  · exact ⟨b, fun _ => by kernel_rfl⟩
  · exact ⟨c, fun _ => by kernel_rfl⟩
  · exact ⟨d, fun _ => by kernel_rfl⟩
  · exact ⟨e, fun _ => by kernel_rfl⟩
  · exact ⟨f, fun _ => by kernel_rfl⟩
set_option maxRecDepth 100000
namespace storeRaw
theorem walk (s1 s2 : ByteArray) (st2 ow2 dl2 : Int) (nm2 : ByteArray) (st3 ow3 dl3 : Int) (nm3 : ByteArray) (a : Option Addr) (len cap : Nat) (zs : List Int) (w : World) (hs1 : s1.size ≤ maxLen) (hs2 : s2.size ≤ maxLen) (_ : I64 st2) (_ : I64 ow2) (_ : I64 dl2) (_ : nm2.size ≤ maxLen) (_ : I64 st3) (_ : I64 ow3) (_ : I64 dl3) (_ : nm3.size ≤ maxLen) (hrow : IsRow .i64 w a len cap zs) :
    Calls Try.prog 18 #[.string s1, .string s2, .agg #[.int .i64 st2, .int .i64 ow2, .string nm2, .int .i64 dl2], .agg #[.int .i64 st3, .int .i64 ow3, .string nm3, .int .i64 dl3], .slice a len cap] w fun e w' => e = .returned (.bool true) ∧ Below w.heap.size w w' := by
  have hx0 : Ext w ((w.alloc (.cells #[.int .i64 st2, .int .i64 ow2, .string nm2, .int .i64 dl2] 30)).alloc (.cells #[.int .i64 st3, .int .i64 ow3, .string nm3, .int .i64 dl3] 30)) := ((Ext.refl w).alloc _).alloc _
  have hr0 : RecAt ((w.alloc (.cells #[.int .i64 st2, .int .i64 ow2, .string nm2, .int .i64 dl2] 30)).alloc (.cells #[.int .i64 st3, .int .i64 ow3, .string nm3, .int .i64 dl3] 30)) w.heap.size st2 ow2 dl2 nm2 := by
    refine ⟨?_, ?_, ?_, ?_, fun i => ?_⟩ <;> go_simp
  have hr1 : RecAt ((w.alloc (.cells #[.int .i64 st2, .int .i64 ow2, .string nm2, .int .i64 dl2] 30)).alloc (.cells #[.int .i64 st3, .int .i64 ow3, .string nm3, .int .i64 dl3] 30)) (w.heap.size + 1) st3 ow3 dl3 nm3 := by
    refine ⟨?_, ?_, ?_, ?_, fun i => ?_⟩ <;> go_simp
  have Hx0 := Lib.hid hx0
  have Hr0 := Lib.hid hr0
  have Hr1 := Lib.hid hr1
  clear hx0 hr0 hr1
  go_enter Try.func18, Try.ntmps18
  go_wp2_with fail
  refine (snew_any 4 _).mono ?_
  rintro e w1 (⟨hp, _⟩ | ⟨_, b, g, h, rfl, hb, hg, hh, hl, hx1⟩)
  · exact absurd hp (by decide)
  have hl1 : StoreAt w1 b g h 4 (fun _ => none) (fun _ => rc0) 0 := hl
  have hz1 := Hx0.out.size
  have Hr0 := Lib.hid (Hr0.out.ext hx1)
  have Hr1 := Lib.hid (Hr1.out.ext hx1)
  have Hx1 := Lib.hid (Hx0.out.trans hx1)
  clear hl hx1
  have Hl1 := Lib.hid hl1
  clear hl1
  go_wp2_with fail
  refine (rsnew_any 4 _).mono ?_
  rintro e w2 (⟨hp, _⟩ | ⟨_, yb, t, s, rfl, hyb, ht, hs, hbt, hbs, htab, hcell, hx2⟩)
  · exact absurd hp (by decide)
  have hl2 := Hl1.out.ext hx2
  have hbw := Hl1.out.2.2.2.1
  have hgw : g < w1.heap.size := Hl1.out.2.2.2.2.2.2.2.2.1.1
  have hhw : h < w1.heap.size := Hl1.out.2.2.2.2.2.2.2.2.2.1
  have hz2 := Hx1.out.size
  have hboth : BothAt w.heap.size b yb 0 w2 g h 4 (fun _ => none) (fun _ => rc0) 0 (fun k => k = yb ∨ k = t ∨ k = s) [] := by
    have htab' : TableAt w2 t s 4 (fun _ => -1) (.slice none 0 0) := htab
    have hti := tabIs_new htab'
    refine ⟨hl2, ⟨t, _, _, (fun k => k = t ∨ k = s), (fun _ => False), (fun _ => False), ⟨by simp [World.cell?, hcell], by simp [World.cell?, hcell], by simp [World.cell?, hcell], fun j => by simp [World.frozen?, hcell], .inl rfl, hti, Rd.nil _ _ _, Rd.nil _ _ _, fun k hk => ⟨.inr hk, by rcases hk with rfl | rfl; exact Ne.symm hbt; exact Ne.symm hbs, fun h => h, fun h => h⟩, fun k hk => hk.elim, fun k hk => hk.elim, fun k hk => by
      rcases hk with rfl | hk
      · exact (Array.getElem?_eq_some_iff.1 hcell).1
      · exact hti.low k hk⟩⟩, st_new, cpl_start 4, Nat.le_refl _, by omega, by omega, by omega, fun i hi => by rcases hi with rfl | rfl | rfl <;> omega, fun h => by rcases h with h | h | h <;> omega, fun h => by rcases h with h | h | h <;> omega, fun h => by rcases h with h | h | h <;> omega⟩
  have Hboth := Lib.hid hboth
  have Hr0 := Lib.hid (Hr0.out.ext hx2)
  have Hr1 := Lib.hid (Hr1.out.ext hx2)
  have Hx2 := Lib.hid (Hx1.out.trans hx2)
  clear hboth hl2 htab hcell hx2
  go_wp2_with fail
  refine (from_any _ _ _ _).mono ?_
  rintro e w3 ⟨rfl, rfl⟩
  have hsrc := src_of_rowIn (cap := cap) (RowIn.of_row hrow) Hx2.out
  go_wp2_with fail
  refine (rec26_any _ _ _ hsrc).mono ?_
  rintro e w3 ⟨st4, ow4, dl4, nm4, b1, b2, b3, b4, b5, b6, b7, rfl, hsrc3, hc3⟩
  have hxf : Ext w2 (w2.alloc (.cells #[.slice a len cap, .int .i64 0] 104)) := (Ext.refl _).alloc _
  have hx3 : Ext w2 w3 := hxf.chg_new hc3 (fun i hi => by subst hi; exact Nat.le_refl _)
  obtain ⟨r0, r1, r2, r3, rf⟩ := Hr0.out.ext hx3
  obtain ⟨q0, q1, q2, q3, qf⟩ := Hr1.out.ext hx3
  have Hboth3 := Lib.hid (Hboth.out.ext hx3)
  have Hx3 := Lib.hid (Hx2.out.trans hx3)
  have hz3 := hx3.size
  have hl0 : w.heap.size < w3.heap.size := lt_of_cell r0
  have hl1 : w.heap.size + 1 < w3.heap.size := lt_of_cell q0
  clear hsrc3 hc3 hxf hx3 hsrc
  go_wp2_with fail
  go_loopw [47] (fun o wr => ∃ k : Nat, k ≤ 6 ∧ o = .int .i64 (k : Int) ∧ Ext w wr ∧ ∃ g h n sl f u S log, BothAt w.heap.size b yb k wr g h n sl f u S log) (fun o _ => 6 - (intOf o).toNat)
  case atStart => exact ⟨0, by omega, rfl, Hx3.out.alloc _, _, _, _, _, _, _, _, _, Hboth3.out.ext (by repeat' (first | exact Ext.refl _ | assumption | apply Ext.alloc | apply Ext.drewN | apply Ext.drew | (refine Ext.trans ?_ (by assumption)) | (refine ext_setCell ?_ (by first | (simp; done) | (simp; omega)) _)))⟩
  case round =>
    clear Hboth3 Hx3 r0 r1 r2 r3 rf q0 q1 q2 q3 qf Hboth Hr0 Hr1 Hx1 Hx2 Hl1
    obtain ⟨k, hk6, rfl, hx, g, h, n, sl, f, u, S, log, hB⟩ := hrel
    have HB := Lib.hid hB
    have Hx := Lib.hid hx
    have hzr := hx.size
    clear hx hB
    by_cases hk : k < 6
    · have hd : decide ((k : Int) < 6) = true := by simp; omega
      obtain ⟨⟨st, ow, nm, dl⟩, hidx⟩ := six_at ⟨st2, ow2, nm2, dl2⟩ ⟨st4, ow4, nm4, dl4⟩ ⟨st3, ow3, nm3, dl3⟩ ⟨0, 0, ⟨#[]⟩, 0⟩ ⟨st4, ow4, nm4, dl4⟩ ⟨st2, ow2, nm2, dl2⟩ k hk
      simp only [six, Rc.cells, rcV, List.cons_append, List.nil_append] at hidx
      go_upto_if 54 with fail
      go_cut [18] (fun s18 wx => ∃ key : ByteArray, s18 = .string key ∧ key.size ≤ maxLen ∧ wr.alloc (.cells #[.int .i64 st, .int .i64 ow, .string nm, .int .i64 dl] 30) = wx)
      case first =>
        go_wp2_with fail
        · go_meet
          exact ⟨s2, rfl, hs2, rfl⟩
        · go_meet
          exact ⟨s1, rfl, hs1, rfl⟩
      case rest =>
        clear hidx
        obtain ⟨key, rfl, hkey, rfl⟩ := hcut
        have hxa : Ext wr (wr.alloc (.cells #[.int .i64 st, .int .i64 ow, .string nm, .int .i64 dl] 30)).drew := ((Ext.refl wr).alloc _).drew
        have hra : RecAt (wr.alloc (.cells #[.int .i64 st, .int .i64 ow, .string nm, .int .i64 dl] 30)).drew wr.heap.size st ow dl nm := by
          refine ⟨?_, ?_, ?_, ?_, fun i => ?_⟩ <;> go_simp
        have hbl := HB.out.x.2.2.2.1
        have hgl : g < wr.heap.size := HB.out.x.2.2.2.2.2.2.2.2.1.1
        have hhl : h < wr.heap.size := HB.out.x.2.2.2.2.2.2.2.2.2.1
        have hSl := HB.out.y.low
        have hlen := HB.out.len
        have HB := Lib.hid (HB.out.ext hxa)
        have Hx := Lib.hid (Hx.out.trans hxa)
        have hBz := Hx.out.size
        have Hra := Lib.hid hra
        have HnS := Lib.hid (show ∀ i, S i → i < wr.heap.size from hSl)
        have hnv : ¬ (wr.heap.size = b ∨ wr.heap.size = g ∨ wr.heap.size = h) := by omega
        have HSd := Lib.hid (show ∀ i, S i → ¬ (i = b ∨ i = g ∨ i = h) from fun i hi e => by rcases e with rfl | rfl | rfl; exact HB.out.nx hi; exact HB.out.ng hi; exact HB.out.nh hi)
        have hnv2 : ¬ S wr.heap.size := fun h => by have := hSl _ h; omega
        have HSall := Lib.hid (show ∀ i, i < w.heap.size → ¬ S i from fun i hi h => by have := HB.out.gs i h; omega)
        clear hSl hra hxa
        go_upto_region 12 with fail
        obtain ⟨p0, p1, p2, p3, _⟩ := Hra.out
        refine wp_region_held_drew (S := fun w' => w'.cell? ⟨wr.heap.size, 0, none⟩ = some (.int .i64 st) ∧ w'.cell? ⟨wr.heap.size, 1, none⟩ = some (.int .i64 ow) ∧ w'.cell? ⟨wr.heap.size, 2, none⟩ = some (.string nm) ∧ w'.cell? ⟨wr.heap.size, 3, none⟩ = some (.int .i64 dl)) (by kernel_rfl) ?_ (fun hHeld => ?_)
        · go_keep
        refine wpAnyH_take (i := 0) (oi := _) (v := ?_) rfl (by kernel_rfl) (by kernel_rfl) (by kernel_rfl) (fun _ _ _ h => h) (Or.inl ⟨by rfl, ?_⟩) (by assumption) ?_; rotate_left; (focus ((intro w hSw; (try dsimp only at hSw); go_simp); (first | done | (with_reducible rfl)))); try simp only [Act.put, List.setIfInBounds_toArray]
        refine wpAnyH_take (i := 1) (oi := _) (v := ?_) rfl (by kernel_rfl) (by kernel_rfl) (by kernel_rfl) (fun _ _ _ h => h) (Or.inl ⟨by rfl, ?_⟩) (by assumption) ?_; rotate_left; (focus ((intro w hSw; (try dsimp only at hSw); go_simp); (first | done | (with_reducible rfl)))); try simp only [Act.put]
        refine wpAnyH_take (i := 2) (oi := _) (v := ?_) rfl (by kernel_rfl) (by kernel_rfl) (by kernel_rfl) (fun _ _ _ h => h) (Or.inl ⟨by rfl, ?_⟩) (by assumption) ?_; rotate_left; (focus ((intro w hSw; (try dsimp only at hSw); go_simp); (first | done | (with_reducible rfl)))); try simp only [Act.put]
        refine wpAnyH_take (i := 4) (oi := _) (v := ?_) rfl (by kernel_rfl) (by kernel_rfl) (by kernel_rfl) (fun _ _ _ h => h) (Or.inl ⟨by rfl, ?_⟩) (by assumption) ?_; rotate_left; (focus ((intro w hSw; (try dsimp only at hSw); go_simp); (first | done | (with_reducible rfl)))); try simp only [Act.put]
        refine wpAnyH_take (i := 5) (oi := _) (v := ?_) rfl (by kernel_rfl) (by kernel_rfl) (by kernel_rfl) (fun _ _ _ h => h) (Or.inl ⟨by rfl, ?_⟩) (by assumption) ?_; rotate_left; (focus ((intro w hSw; (try dsimp only at hSw); go_simp); (first | done | (with_reducible rfl)))); try simp only [Act.put]
        refine wpAnyH_take (i := 6) (oi := _) (v := ?_) rfl (by kernel_rfl) (by kernel_rfl) (by kernel_rfl) (fun _ _ _ h => h) (Or.inl ⟨by rfl, ?_⟩) (by assumption) ?_; rotate_left; (focus ((intro w hSw; (try dsimp only at hSw); go_simp); (first | done | (with_reducible rfl)))); try simp only [Act.put]
        refine wpAnyH_ready (rs := [3]) (by kernel_rfl) (by simp) ?_; refine AllReadyH.cons (o := _) rfl (fun K hK => ?_) AllReadyH.nil; go_simp
        refine (sput_any b g h n sl f u key st ow dl nm _ HB.out.ok hkey HB.out.x).mono ?_; rintro e w4 ⟨code, n1, g1, h1, sl1, f1, u1, rfl, hq1, hl1, hgh1, hc1⟩; have Hr4 := Lib.hid (Hra.out.chg hc1 hnv); have HY := Lib.hid (HB.out.y.chg hc1 HSd.out); have Hx4 := Lib.hid (Hx.out.chg_new hc1 (by rintro i (rfl | rfl | rfl); exact HB.out.gx; exact HB.out.gg; exact HB.out.gh)); have Hq1 := Lib.hid hq1; have Hl1 := Lib.hid hl1; have Hgh1 := Lib.hid hgh1; have Hc1 := Lib.hid hc1; obtain ⟨p0, p1, p2, p3, pf⟩ := Hr4.out; clear hq1 hl1 hgh1 hc1 pf
        (try go_wp2_with fail); refine hK.out _ _ ?_ (fun hHeld => ?_); (focus ((try dsimp only); (first | done | go_keep))); clear hK K; try simp only [Act.put, List.setIfInBounds_toArray, List.set_cons_zero, List.set_cons_succ]
        refine wpAnyH_ready (rs := [7]) (by kernel_rfl) (by simp) ?_; refine AllReadyH.cons (o := _) rfl (fun K hK => ?_) AllReadyH.nil; go_simp
        refine (rput_any S yb n sl u log (2049 * k) key st ow dl nm _ HB.out.ok hkey (by omega) (by omega) HY.out).mono ?_; rintro e w5 ⟨code2, n2, sl2, log2, S2, rfl, hr2, hy2, hS2, hc2⟩; obtain ⟨rfl, hB5⟩ := HB.out.put hkey Hq1.out Hl1.out Hgh1.out Hc1.out hr2 hy2 hS2 hc2 hBz; have HB5 := Lib.hid hB5; have Hr5 := Lib.hid (Hr4.out.chg hc2 hnv2); have Hx5 := Lib.hid (Hx4.out.chg_new hc2 (fun i hi => HB.out.gs i hi)); obtain ⟨p0, p1, p2, p3, pf⟩ := Hr5.out; obtain ⟨t5, ht5⟩ : ∃ t, tOf yb w5 = t := ⟨_, rfl⟩; have y0 := hB5.ytab.1; rw [ht5] at y0; clear hr2 hy2 hS2 hc2 hB5 pf ht5
        (try go_wp2_with fail); refine hK.out _ _ ?_ (fun hHeld => ?_); (focus ((try dsimp only); (first | done | go_keep))); clear hK K; try simp only [Act.put, List.setIfInBounds_toArray, List.set_cons_zero, List.set_cons_succ]
        refine wpAnyH_mono (S := fun w' => (w'.cell? ⟨wr.heap.size, 0, none⟩ = some (.int .i64 st) ∧ w'.cell? ⟨wr.heap.size, 1, none⟩ = some (.int .i64 ow) ∧ w'.cell? ⟨wr.heap.size, 2, none⟩ = some (.string nm) ∧ w'.cell? ⟨wr.heap.size, 3, none⟩ = some (.int .i64 dl)) ∧ w'.cell? ⟨yb, 0, none⟩ = some (.pointer (some ⟨t5, 0, none⟩))) (fun _ h => h.1) _ _ _ _ ?_; have hHeld : (fun w' : World => (w'.cell? ⟨wr.heap.size, 0, none⟩ = some (.int .i64 st) ∧ w'.cell? ⟨wr.heap.size, 1, none⟩ = some (.int .i64 ow) ∧ w'.cell? ⟨wr.heap.size, 2, none⟩ = some (.string nm) ∧ w'.cell? ⟨wr.heap.size, 3, none⟩ = some (.int .i64 dl)) ∧ w'.cell? ⟨yb, 0, none⟩ = some (.pointer (some ⟨t5, 0, none⟩))) w5 := ⟨⟨p0, p1, p2, p3⟩, y0⟩
        refine wpAnyH_take (i := 8) (oi := _) (v := ?_) rfl (by kernel_rfl) (by kernel_rfl) (by kernel_rfl) (fun _ _ _ h => h) (Or.inl ⟨by rfl, ?_⟩) (by assumption) ?_; rotate_left; (focus ((intro w hSw; (try dsimp only at hSw); go_simp); (first | done | (with_reducible rfl)))); try simp only [Act.put, List.setIfInBounds_toArray]
        refine wpAnyH_take (i := 9) (oi := _) (v := ?_) rfl (by kernel_rfl) (by kernel_rfl) (by kernel_rfl) (fun _ _ _ h => h) (Or.inl ⟨by rfl, ?_⟩) (by assumption) ?_; rotate_left; (focus ((intro w hSw; (try dsimp only at hSw); go_simp); (first | done | (with_reducible rfl)))); try simp only [Act.put]
        refine wpAnyH_take (i := 10) (oi := _) (v := ?_) rfl (by kernel_rfl) (by kernel_rfl) (by kernel_rfl) (fun _ _ _ h => h) (Or.inl ⟨by rfl, ?_⟩) (by assumption) ?_; rotate_left; (focus ((intro w hSw; (try dsimp only at hSw); go_simp); (first | done | (with_reducible rfl)))); try simp only [Act.put]
        refine wpAnyH_take (i := 11) (oi := _) (v := ?_) rfl (by kernel_rfl) (by kernel_rfl) (by kernel_rfl) (fun _ _ _ h => h) (Or.inl ⟨by rfl, ?_⟩) (by assumption) ?_; rotate_left; (focus ((intro w hSw; (try dsimp only at hSw); go_simp); (first | done | (with_reducible rfl)))); try simp only [Act.put]
        refine wpAnyH_take (i := 13) (oi := _) (v := ?_) rfl (by kernel_rfl) (by kernel_rfl) (by kernel_rfl) (fun _ _ _ h => h) (Or.inl ⟨by rfl, ?_⟩) (by assumption) ?_; rotate_left; (focus ((intro w hSw; (try dsimp only at hSw); go_simp); (first | done | (with_reducible rfl)))); try simp only [Act.put]
        refine wpAnyH_take (i := 14) (oi := _) (v := ?_) rfl (by kernel_rfl) (by kernel_rfl) (by kernel_rfl) (fun _ _ _ h => h) (Or.inl ⟨by rfl, ?_⟩) (by assumption) ?_; rotate_left; (focus ((intro w hSw; (try dsimp only at hSw); go_simp); (first | done | (with_reducible rfl)))); try simp only [Act.put]
        refine wpAnyH_ready (rs := [12]) (by kernel_rfl) (by simp) ?_; refine AllReadyH.cons (o := _) rfl (fun K hK => ?_) AllReadyH.nil; go_simp
        refine (HB5.out.xget _ (by first | exact hs1 | exact hs2)).mono ?_; rintro e w6 ⟨rfl, hx6⟩; have y0 := (hx6.cell (p := ⟨yb, 0, none⟩) HB5.out.ylow).trans y0; have HB5 := Lib.hid (HB5.out.ext hx6); have Hr5 := Lib.hid (Hr5.out.ext hx6); have Hx5 := Lib.hid (Hx5.out.trans hx6); obtain ⟨p0, p1, p2, p3, pf⟩ := Hr5.out; clear hx6 pf
        (try go_wp2_with fail); refine hK.out _ _ ?_ (fun hHeld => ?_); (focus ((try dsimp only); (first | done | go_keep))); clear hK K; try simp only [Act.put, List.setIfInBounds_toArray, List.set_cons_zero, List.set_cons_succ]
        refine wpAnyH_ready (rs := [15]) (by kernel_rfl) (by simp) ?_; refine AllReadyH.cons (o := _) rfl (fun K hK => ?_) AllReadyH.nil; go_simp
        refine (HB5.out.yget (by omega) _).mono ?_; rintro e w6 ⟨rfl, hx6⟩; have y0 := (hx6.cell (p := ⟨yb, 0, none⟩) HB5.out.ylow).trans y0; have HB5 := Lib.hid (HB5.out.ext hx6); have Hr5 := Lib.hid (Hr5.out.ext hx6); have Hx5 := Lib.hid (Hx5.out.trans hx6); obtain ⟨p0, p1, p2, p3, pf⟩ := Hr5.out; clear hx6 pf
        (try go_wp2_with fail); refine hK.out _ _ ?_ (fun hHeld => ?_); (focus ((try dsimp only); (first | done | go_keep))); clear hK K; try simp only [Act.put, List.setIfInBounds_toArray, List.set_cons_zero, List.set_cons_succ]
        refine wpAnyH_take (i := 16) (oi := _) (v := ?_) rfl (by kernel_rfl) (by kernel_rfl) (by kernel_rfl) (fun _ _ _ h => h) (Or.inl ⟨by rfl, ?_⟩) (by assumption) ?_; rotate_left; (focus ((intro w hSw; (try dsimp only at hSw); go_simp); (first | done | (with_reducible rfl)))); try simp only [Act.put, List.setIfInBounds_toArray]
        refine wpAnyH_take (i := 17) (oi := _) (v := ?_) rfl (by kernel_rfl) (by kernel_rfl) (by kernel_rfl) (fun _ _ _ h => h) (Or.inl ⟨by rfl, ?_⟩) (by assumption) ?_; rotate_left; (focus ((intro w hSw; (try dsimp only at hSw); go_simp); (first | done | (with_reducible rfl)))); try simp only [Act.put]
        refine wpAnyH_take (i := 18) (oi := _) (v := ?_) rfl (by kernel_rfl) (by kernel_rfl) (by kernel_rfl) (fun _ _ _ h => h) (Or.inl ⟨by rfl, ?_⟩) (by assumption) ?_; rotate_left; (focus ((intro w hSw; (try dsimp only at hSw); go_simp); (first | done | (with_reducible rfl)))); try simp only [Act.put]
        refine wpAnyH_take (i := 19) (oi := _) (v := ?_) rfl (by kernel_rfl) (by kernel_rfl) (by kernel_rfl) (fun _ _ _ h => h) (Or.inl ⟨by rfl, ?_⟩) (by assumption) ?_; rotate_left; (focus ((intro w hSw; (try dsimp only at hSw); go_simp); (first | done | (with_reducible rfl)))); try simp only [Act.put]
        refine wpAnyH_take (i := 20) (oi := _) (v := ?_) rfl (by kernel_rfl) (by kernel_rfl) (by kernel_rfl) (fun _ _ _ h => h) (Or.inl ⟨by rfl, ?_⟩) (by assumption) ?_; rotate_left; (focus ((intro w hSw; (try dsimp only at hSw); go_simp); (first | done | (with_reducible rfl)))); try simp only [Act.put]
        refine wpAnyH_take (i := 22) (oi := _) (v := ?_) rfl (by kernel_rfl) (by kernel_rfl) (by kernel_rfl) (fun _ _ _ h => h) (Or.inl ⟨by rfl, ?_⟩) (by assumption) ?_; rotate_left; (focus ((intro w hSw; (try dsimp only at hSw); go_simp); (first | done | (with_reducible rfl)))); try simp only [Act.put]
        refine wpAnyH_take (i := 23) (oi := _) (v := ?_) rfl (by kernel_rfl) (by kernel_rfl) (by kernel_rfl) (fun _ _ _ h => h) (Or.inl ⟨by rfl, ?_⟩) (by assumption) ?_; rotate_left; (focus ((intro w hSw; (try dsimp only at hSw); go_simp); (first | done | (with_reducible rfl)))); try simp only [Act.put]
        refine wpAnyH_ready (rs := [21]) (by kernel_rfl) (by simp) ?_; refine AllReadyH.cons (o := _) rfl (fun K hK => ?_) AllReadyH.nil; go_simp
        refine (HB5.out.xget _ (by first | exact hs1 | exact hs2)).mono ?_; rintro e w6 ⟨rfl, hx6⟩; have y0 := (hx6.cell (p := ⟨yb, 0, none⟩) HB5.out.ylow).trans y0; have HB5 := Lib.hid (HB5.out.ext hx6); have Hr5 := Lib.hid (Hr5.out.ext hx6); have Hx5 := Lib.hid (Hx5.out.trans hx6); obtain ⟨p0, p1, p2, p3, pf⟩ := Hr5.out; clear hx6 pf
        (try go_wp2_with fail); refine hK.out _ _ ?_ (fun hHeld => ?_); (focus ((try dsimp only); (first | done | go_keep))); clear hK K; try simp only [Act.put, List.setIfInBounds_toArray, List.set_cons_zero, List.set_cons_succ]
        refine wpAnyH_ready (rs := [24]) (by kernel_rfl) (by simp) ?_; refine AllReadyH.cons (o := _) rfl (fun K hK => ?_) AllReadyH.nil; go_simp
        refine (HB5.out.yget (by omega) _).mono ?_; rintro e w6 ⟨rfl, hx6⟩; have y0 := (hx6.cell (p := ⟨yb, 0, none⟩) HB5.out.ylow).trans y0; have HB5 := Lib.hid (HB5.out.ext hx6); have Hr5 := Lib.hid (Hr5.out.ext hx6); have Hx5 := Lib.hid (Hx5.out.trans hx6); obtain ⟨p0, p1, p2, p3, pf⟩ := Hr5.out; clear hx6 pf
        (try go_wp2_with fail); refine hK.out _ _ ?_ (fun hHeld => ?_); (focus ((try dsimp only); (first | done | go_keep))); clear hK K; try simp only [Act.put, List.setIfInBounds_toArray, List.set_cons_zero, List.set_cons_succ]
        refine wpAnyH_take (i := 25) (oi := _) (v := ?_) rfl (by kernel_rfl) (by kernel_rfl) (by kernel_rfl) (fun _ _ _ h => h) (Or.inl ⟨by rfl, ?_⟩) (by assumption) ?_; rotate_left; (focus ((intro w hSw; (try dsimp only at hSw); go_simp); (first | done | (with_reducible rfl)))); try simp only [Act.put, List.setIfInBounds_toArray]
        refine wpAnyH_take (i := 26) (oi := _) (v := ?_) rfl (by kernel_rfl) (by kernel_rfl) (by kernel_rfl) (fun _ _ _ h => h) (Or.inl ⟨by rfl, ?_⟩) (by assumption) ?_; rotate_left; (focus ((intro w hSw; (try dsimp only at hSw); go_simp); (first | done | (with_reducible rfl)))); try simp only [Act.put]
        refine wpAnyH_take (i := 27) (oi := _) (v := ?_) rfl (by kernel_rfl) (by kernel_rfl) (by kernel_rfl) (fun _ _ _ h => h) (Or.inl ⟨by rfl, ?_⟩) (by assumption) ?_; rotate_left; (focus ((intro w hSw; (try dsimp only at hSw); go_simp); (first | done | (with_reducible rfl)))); try simp only [Act.put]
        refine wpAnyH_take (i := 28) (oi := _) (v := ?_) rfl (by kernel_rfl) (by kernel_rfl) (by kernel_rfl) (fun _ _ _ h => h) (Or.inl ⟨by rfl, ?_⟩) (by assumption) ?_; rotate_left; (focus ((intro w hSw; (try dsimp only at hSw); go_simp); (first | done | (with_reducible rfl)))); try simp only [Act.put]
        refine wpAnyH_take (i := 30) (oi := _) (v := ?_) rfl (by kernel_rfl) (by kernel_rfl) (by kernel_rfl) (fun _ _ _ h => h) (Or.inl ⟨by rfl, ?_⟩) (by assumption) ?_; rotate_left; (focus ((intro w hSw; (try dsimp only at hSw); go_simp); (first | done | (with_reducible rfl)))); try simp only [Act.put]
        refine wpAnyH_take (i := 31) (oi := _) (v := ?_) rfl (by kernel_rfl) (by kernel_rfl) (by kernel_rfl) (fun _ _ _ h => h) (Or.inl ⟨by rfl, ?_⟩) (by assumption) ?_; rotate_left; (focus ((intro w hSw; (try dsimp only at hSw); go_simp); (first | done | (with_reducible rfl)))); try simp only [Act.put]
        refine wpAnyH_take (i := 32) (oi := _) (v := ?_) rfl (by kernel_rfl) (by kernel_rfl) (by kernel_rfl) (fun _ _ _ h => h) (Or.inl ⟨by rfl, ?_⟩) (by assumption) ?_; rotate_left; (focus ((intro w hSw; (try dsimp only at hSw); go_simp); (first | done | (with_reducible rfl)))); try simp only [Act.put]
        refine wpAnyH_take (i := 33) (oi := _) (v := ?_) rfl (by kernel_rfl) (by kernel_rfl) (by kernel_rfl) (fun _ _ _ h => h) (Or.inl ⟨by rfl, ?_⟩) (by assumption) ?_; rotate_left; (focus ((intro w hSw; (try dsimp only at hSw); go_simp); (first | done | (with_reducible rfl)))); try simp only [Act.put]
        refine wpAnyH_ready (rs := [29]) (by kernel_rfl) (by simp) ?_; refine AllReadyH.cons (o := _) rfl (fun K hK => ?_) AllReadyH.nil; go_simp
        refine (HB5.out.xlen).mono ?_; rintro e w6 ⟨rfl, rfl⟩
        (try go_wp2_with fail); refine hK.out _ _ ?_ (fun hHeld => ?_); (focus ((try dsimp only); (first | done | go_keep))); clear hK K; try simp only [Act.put, List.setIfInBounds_toArray, List.set_cons_zero, List.set_cons_succ]
        refine wpAnyH_ready (rs := [34]) (by kernel_rfl) (by simp) ?_; refine AllReadyH.cons (o := _) rfl (fun K hK => ?_) AllReadyH.nil; go_simp
        refine (HB5.out.ylen y0).mono ?_; rintro e w6 ⟨rfl, rfl⟩
        (try go_wp2_with fail); refine hK.out _ _ ?_ (fun hHeld => ?_); (focus ((try dsimp only); (first | done | go_keep))); clear hK K; try simp only [Act.put, List.setIfInBounds_toArray, List.set_cons_zero, List.set_cons_succ]
        refine wpAnyH_take (i := 35) (oi := _) (v := ?_) rfl (by kernel_rfl) (by kernel_rfl) (by kernel_rfl) (fun _ _ _ h => h) (Or.inl ⟨by rfl, ?_⟩) (by assumption) ?_; rotate_left; (focus ((intro w hSw; (try dsimp only at hSw); go_simp); (first | done | (with_reducible rfl)))); try simp only [Act.put, List.setIfInBounds_toArray]
        refine wpAnyH_take (i := 36) (oi := _) (v := ?_) rfl (by kernel_rfl) (by kernel_rfl) (by kernel_rfl) (fun _ _ _ h => h) (Or.inl ⟨by rfl, ?_⟩) (by assumption) ?_; rotate_left; (focus ((intro w hSw; (try dsimp only at hSw); go_simp); (first | done | (with_reducible rfl)))); try simp only [Act.put]
        refine wpAnyH_done (by kernel_rfl) ?_ _
        clear p0 p1 p2 p3 y0 hHeld
        go_wp2_with fail
        go_roundw
        case rel => exact ⟨k + 1, by omega, by go_num, Hx5.out, _, _, _, _, _, _, _, _, HB5.out⟩
        case measure => simp [intOf]; omega
    · have hd : decide ((k : Int) < 6) = false := by simp; omega
      go_wp2_with fail
      refine (awake26 _).mono ?_
      rintro e w4 ⟨rfl, hx4⟩
      go_wp2_with fail
      go_ret
      exact ⟨rfl, Ext.below (Hx.out.trans hx4)⟩
end storeRaw
end Go.Proofs.Ytkhfjedeccjnbaa
