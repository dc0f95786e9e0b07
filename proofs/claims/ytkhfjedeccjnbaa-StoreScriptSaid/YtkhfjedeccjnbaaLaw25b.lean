/-
  The walk of LocksExclusive: it returns true and changes nothing that was there.
  Conditions: the string's length is within a process's reach.
-/
import Derived.Test.YtkhfjedeccjnbaaRel2
import Derived.Test.YtkhfjedeccjnbaaLaw25a
import Derived.Test.YtkhfjedeccjnbaaSource
import Derived.Test.YtkhfjedeccjnbaaMkRec
import Derived.Test.YtkhfjedeccjnbaaSrcChg
import Derived.Deep.CutBlock
namespace Go.Proofs.Ytkhfjedeccjnbaa
open Go.RowKit Go.Sort
set_option maxHeartbeats 1000000

theorem left_src (b B : Nat) (w : World) (hs : Src B w b) : Calls Try.prog 58 #[.pointer (some ⟨b, 0, none⟩)] w fun e w' => (∃ v, e = .returned (.bool v)) ∧ Src B w' b ∧ Chg (· = b) w w' := by
  have Hs := Lib.hid hs
  obtain ⟨a, len, cap, i, hb, hB, hl, hi, hx⟩ := hs
  have hc0 : w.cell? ⟨b, 0, none⟩ = some (.slice a len cap) := by simp [World.cell?, hb]
  have hc1 : w.cell? ⟨b, 1, none⟩ = some (.int .i64 (i : Int)) := by simp [World.cell?, hb]
  clear hb hx
  go_enter Try.func58, Try.ntmps58
  go_wp2_with fail
  go_region
  all_goals
    go_wp2
    go_ret
    exact ⟨⟨_, rfl⟩, (by have hs := Hs.out; repeat (first | assumption | apply Src.drew)), (by have hx := Chg.refl (· = b) w; repeat (first | assumption | apply Chg.drew))⟩
theorem src_of_row {w w1 : World} {a : Option Addr} {len cap : Nat} {zs : List Int} (h : IsRow .i64 w a len cap zs) (x : Ext w w1) : Src w.heap.size (w1.alloc (.cells #[.slice a len cap, .int .i64 0] 104)) w1.heap.size := by
  refine ⟨a, len, cap, 0, heap_alloc_new _ _, x.size, ?_, by omega, fun hl => ?_⟩
  · rcases h with ⟨_, rfl, _⟩ | ⟨x, _, h1, h2, _⟩
    · exact Nat.zero_le _
    · omega
  · rcases h with ⟨_, rfl, _⟩ | ⟨y, rfl, h1, h2, h3, h4, h5⟩
    · omega
    · have hb : y.block < w.heap.size := by have := lt_of_cell' (h4 0 (by omega)); rwa [add_block] at this
      refine ⟨y, rfl, hb, fun j hj => ⟨zs.getD j 0, ?_, ?_⟩⟩
      · rw [(x.alloc _).cell (by rw [add_block]; exact hb)]
        exact h4 j (by omega)
      · have hj' : j < zs.length := by omega
        rw [List.getD_eq_getElem?_getD, List.getElem?_eq_getElem hj', Option.getD_some]
        exact i64_of_wf (h5 _ (List.getElem_mem hj'))
theorem LocksAt.chg_far {w w' : World} {b g h n sb : Nat} {sl : Nat → Option ByteArray} {ow : Nat → Int} {u : Int} (k : LocksAt w b g h n sl ow u) (c : Chg (· = sb) w w') (h1 : b ≠ sb) (h2 : g ≠ sb) (h3 : h ≠ sb) : LocksAt w' b g h n sl ow u :=
  k.keep c.size (c.block b k.2.2.2.1 h1) (c.block g k.2.2.2.2.2.2.2.2.1.1 h2) (c.block h k.2.2.2.2.2.2.2.2.2.1 h3)
def KeyPost (B b : Nat) (w : World) (e : Ending) (w' : World) : Prop := ∃ s : ByteArray, s.size = 1 ∧ e = .returned (.string s) ∧ Src B w' b ∧ Chg (· = b) w w'
theorem key_any (b B : Nat) (w : World) (hsrc : Src B w b) : Calls Try.prog 60 #[.pointer (some ⟨b, 0, none⟩)] w (KeyPost B b w) := by
  go_enter Try.func60, Try.ntmps60
  go_wp2_with fail
  refine (next_any _ _ (by omega) (by omega) _ B hsrc).mono ?_
  rintro e w1 ⟨v, hv, rfl, hsrc2, hc, hz⟩
  have hv2 : v ≤ 15 := by omega
  go_wp2_with fail
  go_ret
  exact ⟨_, by simp; show min (v + 1) 16 - v = 1; omega, rfl, hsrc2, hc⟩

theorem size_two {s : ByteArray} (h : s.size = 1) (x : UInt8) : (s ++ (⟨#[x]⟩ : ByteArray)).size ≤ maxLen := by
  have e : (⟨#[x]⟩ : ByteArray).size = 1 := rfl
  rw [ByteArray.size_append, h, e]; unfold maxLen; omega
theorem last_ne {s t : ByteArray} {x y : UInt8} (h : x ≠ y) : s ++ ⟨#[x]⟩ ≠ t ++ ⟨#[y]⟩ := by
  intro e
  apply h
  have e2 : (s ++ (⟨#[x]⟩ : ByteArray)).data.toList = (t ++ (⟨#[y]⟩ : ByteArray)).data.toList := by rw [e]
  simp at e2
  exact e2.2

theorem acq_inv {n : Nat} {sl : Nat → Option ByteArray} {ow : Nat → Int} {u : Int} {key : ByteArray} {c code : Int} {sl' : Nat → Option ByteArray} {ow' : Nat → Int} {u' : Int} (t : Tab n sl u) {Q : ByteArray → Prop} (hQ : ∀ i k, i < n → sl i = some k → Q k) (hk : Q key) (s : AcqSpec n sl ow u key c code sl' ow' u') :
    Tab n sl' u' ∧ u' ≤ u + 1 ∧ ∀ i k, i < n → sl' i = some k → Q k := by
  rcases s with ⟨_, _, rfl, _, rfl⟩ | ⟨_, p, ok, f, ⟨_, _, _, rfl, _, rfl⟩ | ⟨_, _, _, rfl, _, rfl⟩ | ⟨_, _, _, rfl, _, rfl⟩ | ⟨rfl, _, _, rfl, _, rfl⟩⟩
  · exact ⟨t, by omega, hQ⟩
  · exact ⟨t, by omega, hQ⟩
  · exact ⟨t, by omega, hQ⟩
  · exact ⟨t, by omega, hQ⟩
  · refine ⟨t.ins f, by omega, fun i k hi h => ?_⟩
    by_cases hip : i = p
    · rw [hip, upd_same] at h; simp at h; rw [← h]; exact hk
    · rw [upd_other _ _ hip] at h; exact hQ i k hi h
theorem rel_owner {n : Nat} {sl : Nat → Option ByteArray} {ow : Nat → Int} {u : Int} {key : ByteArray} {c code : Int} {sl' : Nat → Option ByteArray} {ow' : Nat → Int} {u' : Int} (t : Tab n sl u) {i : Nat} (hi : Has n sl key i) (ho : ow i ≠ c) (hc : 0 ≤ c ∧ c < 64) (s : RelSpec n sl ow u key c code sl' ow' u') :
    code = 25 ∧ sl' = sl ∧ ow' = ow ∧ u' = u := by
  rcases s with ⟨h, _⟩ | ⟨_, p, ok, f, s⟩
  · exact absurd hc h
  · obtain ⟨hm, hp⟩ := t.hit hi f
    subst hm hp
    rcases s with ⟨h, _⟩ | ⟨_, _, h⟩ | ⟨_, h, _⟩
    · simp at h
    · exact h
    · exact absurd h ho
theorem rel_free {n : Nat} {sl : Nat → Option ByteArray} {ow : Nat → Int} {u : Int} {key : ByteArray} {c code : Int} {sl' : Nat → Option ByteArray} {ow' : Nat → Int} {u' : Int} (t : Tab n sl u) {i : Nat} (hi : Has n sl key i) (ho : ow i = c) (hc : 0 ≤ c ∧ c < 64) (s : RelSpec n sl ow u key c code sl' ow' u') :
    code = 0 ∧ u' = u - 1 ∧ ∃ s, RmDone n (rmStart n sl ow i) s ∧ sl' = s.sl ∧ ow' = s.pay := by
  rcases s with ⟨h, _⟩ | ⟨_, p, ok, f, s⟩
  · exact absurd hc h
  · obtain ⟨hm, hp⟩ := t.hit hi f
    subst hm hp
    rcases s with ⟨h, _⟩ | ⟨_, h, _⟩ | ⟨_, _, h⟩
    · simp at h
    · exact absurd ho h
    · exact h
theorem rel_none {n : Nat} {sl : Nat → Option ByteArray} {ow : Nat → Int} {u : Int} {key : ByteArray} {c code : Int} {sl' : Nat → Option ByteArray} {ow' : Nat → Int} {u' : Int} (hno : ∀ i, ¬ Has n sl key i) (hc : 0 ≤ c ∧ c < 64) (s : RelSpec n sl ow u key c code sl' ow' u') :
    code = 23 ∧ sl' = sl ∧ ow' = ow ∧ u' = u := by
  rcases s with ⟨h, _⟩ | ⟨_, p, ok, f, s⟩
  · exact absurd hc h
  · have hm := (Tab.miss hno f).1
    subst hm
    rcases s with ⟨_, h⟩ | ⟨h, _⟩ | ⟨h, _⟩
    · exact h
    · simp at h
    · simp at h

/-- What the table of the walk is like behind its loop. -/
def LkI (w : World) (b g h : Nat) (wr : World) : Prop := ∃ sl ow u, LocksAt wr b g h 32 sl ow u ∧ Tab 32 sl u ∧ 0 ≤ u ∧ u ≤ 20 ∧ (∀ i key, i < 32 → sl i = some key → ∃ s1 : ByteArray, s1.size = 1 ∧ key = s1 ++ ⟨#[120]⟩) ∧ Ext w wr
set_option maxRecDepth 100000
set_option maxHeartbeats 8000000
namespace locksExclusive
theorem walk (a : Option Addr) (len cap : Nat) (zs : List Int) (s : ByteArray) (a2 a3 : Int) (w : World) (hrow : IsRow .i64 w a len cap zs) (hs : s.size ≤ 140737488351232) (_ : I64 a2) (_ : I64 a3) :
    Calls Try.prog 16 #[.slice a len cap, .string s, .int .i64 a2, .int .i64 a3] w fun e w' => e = .returned (.bool true) ∧ Below w.heap.size w w' := by
  obtain ⟨who, hwho⟩ : ∃ x, pickI a2 64 = x := ⟨_, rfl⟩
  obtain ⟨dd, hdd⟩ : ∃ x, pickI a3 63 = x := ⟨_, rfl⟩
  have b2 := pickI_bd a2 64 (by omega)
  have b3 := pickI_bd a3 63 (by omega)
  rw [hwho] at b2
  rw [hdd] at b3
  obtain ⟨hw0, hw1⟩ := b2
  obtain ⟨hd0, hd1⟩ := b3
  obtain ⟨oth, hoth⟩ : ∃ o, (who + 1 + dd).tmod 64 = o := ⟨_, rfl⟩
  have hoe : oth = (who + 1 + dd) % 64 := by rw [← hoth, Int.tmod_eq_emod_of_nonneg (by omega)]
  have ho0 : 0 ≤ oth := by omega
  have ho1 : oth < 64 := by omega
  have hne : oth ≠ who := by omega
  clear hoe
  obtain ⟨ky, hky⟩ : ∃ k, s ++ (⟨#[121]⟩ : ByteArray) = k := ⟨_, rfl⟩
  have hky2 : ∀ s1, ky ≠ s1 ++ ⟨#[120]⟩ := fun s1 e => last_ne (x := 121) (y := 120) (by decide) (hky.trans e)
  have hkys : ky.size ≤ maxLen := by
    have e1 : (⟨#[121]⟩ : ByteArray).size = 1 := rfl
    rw [← hky, ByteArray.size_append, e1]; unfold maxLen; omega
  go_enter Try.func16, Try.ntmps16
  go_wp2_with fail
  refine (new_any 32 _).mono ?_
  rintro e w1 (⟨hp, _⟩ | ⟨_, b, g, h, rfl, hb, hg, hh, hl, hx⟩)
  · exact absurd hp (by decide)
  have hl1 : LocksAt w1 b g h 32 (fun _ => none) (fun _ => 0) 0 := hl
  clear hl
  have hS : ∀ i, (i = b ∨ i = g ∨ i = h) → w.heap.size ≤ i := by rintro i (rfl | rfl | rfl) <;> assumption
  go_wp2_with fail
  refine (from_any _ _ _ _).mono ?_
  rintro e w2 ⟨rfl, rfl⟩
  have hsrc : Src w.heap.size (w1.alloc (.cells #[.slice a len cap, .int .i64 0] 104)) w1.heap.size := src_of_row hrow hx
  have hbl : b < w1.heap.size := hl1.2.2.2.1
  have hgl : g < w1.heap.size := hl1.2.2.2.2.2.2.2.2.1.1
  have hhl : h < w1.heap.size := hl1.2.2.2.2.2.2.2.2.2.1
  have hl2 := hl1.ext ((Ext.refl _).alloc (.cells #[.slice a len cap, .int .i64 0] 104))
  have hx2 := hx.alloc (.cells #[.slice a len cap, .int .i64 0] 104)
  obtain ⟨sb, hsb⟩ : ∃ sb, w1.heap.size = sb := ⟨_, rfl⟩
  rw [hsb] at hsrc hbl hgl hhl
  have hsB : w.heap.size ≤ sb := by rw [← hsb]; exact hx.size
  obtain ⟨w2, hw2⟩ : ∃ w2, w1.alloc (.cells #[.slice a len cap, .int .i64 0] 104) = w2 := ⟨_, rfl⟩
  rw [hw2] at hsrc hl2 hx2 ⊢
  rw [hsb]
  clear hsb hw2 hl1 hx hrow
  go_upto_block 0 with fail
  go_cut [12] from 28 to 42 (fun _ wx => LkI w b g h wx)
  case first =>
    go_wp2_with fail
    go_loopw [12] (fun o wr => ∃ k : Nat, k ≤ 20 ∧ o = .int .i64 (k : Int) ∧ ∃ sl ow u, LocksAt wr b g h 32 sl ow u ∧ Tab 32 sl u ∧ 0 ≤ u ∧ u ≤ (k : Int) ∧ (∀ i key, i < 32 → sl i = some key → ∃ s1 : ByteArray, s1.size = 1 ∧ key = s1 ++ ⟨#[120]⟩) ∧ Src w.heap.size wr sb ∧ Ext w wr) (fun o _ => (20 - intOf o).toNat)
    case atStart => exact ⟨0, by omega, rfl, _, _, _, hl2, tab_new (by omega), by omega, by omega, by simp, hsrc, hx2⟩
    case round =>
      clear hsrc hl2 hx2
      obtain ⟨k, hk20, rfl, sl, ow, u, hl, t, hu0, huk, hX, hsrc, hx⟩ := hrel
      by_cases hk : k < 20
      · have hd : decide ((k : Int) < 20) = true := by simp; omega
        have Hl := Lib.hid hl
        have HX := Lib.hid hX
        have Hx := Lib.hid hx
        clear hl hX hx
        go_wp2_with fail
        refine (left_src _ _ _ hsrc).mono ?_
        rintro e w3 ⟨⟨v, rfl⟩, hsrc3, hc3⟩
        have hl := Hl.out.chg_far hc3 (by omega) (by omega) (by omega)
        have hX := HX.out
        have hx := Hx.out.chg_new hc3 (fun i hi => by subst hi; exact hsB)
        cases v
        · clear hsrc hc3 Hl HX Hx
          go_wp2_with fail
          go_meet
          exact ⟨sl, ow, u, hl, t, hu0, by omega, hX, hx⟩
        · clear hsrc hc3 Hl HX Hx
          have Hl := Lib.hid hl
          have HX := Lib.hid hX
          have Hx := Lib.hid hx
          clear hl hX hx
          go_wp2_with fail
          refine (key_any _ _ _ hsrc3).mono ?_
          rintro e w4 ⟨s1, hs1, rfl, hsrc4, hc4⟩
          have Hc4 := Lib.hid hc4
          clear hc4 hsrc3
          go_wp2_with fail
          refine (next_any _ _ (by omega) (by omega) _ _ hsrc4).mono ?_
          rintro e w5 ⟨v, hv, rfl, hsrc5, hc5, _⟩
          have hl5 := (Hl.out.chg_far Hc4.out (by omega) (by omega) (by omega)).chg_far hc5 (by omega) (by omega) (by omega)
          have hx5 := (Hx.out.chg_new Hc4.out (fun i hi => by subst hi; exact hsB)).chg_new hc5 (fun i hi => by subst hi; exact hsB)
          clear hc5 hsrc4
          obtain ⟨fu, hfu, hfree⟩ := t.free (show u < (32 : Nat) by omega)
          go_wp2_with fail
          refine (acquire_any b g h 32 sl ow u _ _ _ (by omega) (by omega) (size_two hs1 _) hl5 (by omega) (by omega) fu hfu hfree).mono ?_
          rintro e w6 ⟨code, sl6, ow6, u6, rfl, hsp, hl6, hc6⟩
          obtain ⟨t6, hu6, hX6⟩ := acq_inv t HX.out ⟨s1, hs1, congrArg (s1 ++ ·) rfl⟩ hsp
          have hsrc6 := hsrc5.chg hc6 (by rintro (e | e | e) <;> omega) (by intro i hi hb; have := hS i hb; omega)
          have hx6 := hx5.chg_new hc6 hS
          have hu60 := t6.bd.1
          clear hl5 hx5 hsrc5 hc6 hsp
          go_wp2_with fail
          go_roundw
          case rel => exact ⟨k + 1, by omega, by go_num, sl6, ow6, u6, hl6, t6, hu60, by omega, hX6, hsrc6, hx6⟩
          case measure => simp [intOf]; omega
      · have hd : decide ((k : Int) < 20) = false := by simp; omega
        go_wp2_with fail
        go_meet
        exact ⟨sl, ow, u, hl, t, hu0, by omega, hX, hx⟩
  case rest =>
    obtain ⟨sl, ow, u, hl, t, hu0, huk, hX, hx⟩ := hcut
    have hfr : u < (32 : Nat) := by omega
    obtain ⟨fu, hfu, hfree⟩ := t.free hfr
    have hno : ∀ i, ¬ Has 32 sl ky i := fun i hi => by
      obtain ⟨s1, _, e1⟩ := hX i ky hi.1 hi.2
      exact hky2 s1 e1
    have hK : ∀ i k, i < 32 → sl i = some k → k.size ≤ maxLen := fun i k hi hk => by
      obtain ⟨s1, e1, e2⟩ := hX i k hi hk
      rw [e2]; exact size_two e1 _
    go_wp2_with (go_at_call 29; refine (pick_any _ _ (by omega) (by omega) _).mono ?_; rintro e w' ⟨rfl, rfl⟩)
    refine (acquire_any b g h 32 sl ow u ky who _ (by omega) (by omega) hkys hl (by omega) (by omega) fu hfu hfree).mono ?_
    rintro e w2 ⟨code, sl1, ow1, u1, rfl, hs, hl1, hc1⟩
    obtain ⟨rfl, p, hf, rfl, rfl, rfl⟩ := acq_new hno ⟨hw0, hw1⟩ (by omega) hs
    have t1 := t.ins hf
    have hp := hf.lt
    have hhas : Has 32 (upd sl p (some ky)) ky p := ⟨hp, upd_same _ _ _⟩
    have how : upd ow p who p = who := upd_same _ _ _
    have hK1 : ∀ i k, i < 32 → upd sl p (some ky) i = some k → k.size ≤ maxLen := fun i k hi hk => by
      by_cases hip : i = p
      · rw [hip, upd_same] at hk; simp at hk; rw [← hk]; exact hkys
      · rw [upd_other _ _ hip] at hk; exact hK i k hi hk
    obtain ⟨sl1, hsl1⟩ : ∃ f, upd sl p (some ky) = f := ⟨_, rfl⟩
    obtain ⟨ow1, how1⟩ : ∃ f, upd ow p who = f := ⟨_, rfl⟩
    rw [hsl1] at t1 hhas hK1 hl1
    rw [how1] at how hl1
    obtain ⟨fu1, hfu1, hfree1⟩ := t1.free (by omega)
    have hx := hx.chg_new hc1 hS
    clear hs hf hsl1 how1 hl hno hK hfree hc1 hX t
    go_wp2_with fail
    refine (acquire_any b g h 32 sl1 ow1 _ ky oth _ (by omega) (by omega) hkys hl1 (by omega) (by omega) fu1 hfu1 hfree1).mono ?_
    rintro e w3 ⟨code, sl2, ow2, u2, rfl, hs, hl2, hc2⟩
    obtain ⟨rfl, rfl, rfl, rfl⟩ := acq_busy t1 hhas (by rw [how]; exact fun e => hne e.symm) ⟨ho0, ho1⟩ hs
    have hx := hx.chg_new hc2 hS
    clear hs hl1 hc2
    go_wp2_with fail
    refine (release_any b g h 32 _ _ _ ky oth _ (by omega) hkys hl2 t1 hK1 fu1 hfu1 hfree1).mono ?_
    rintro e w4 ⟨code, sl2, ow2, u2, rfl, hs, hl3, hc3⟩
    obtain ⟨rfl, rfl, rfl, rfl⟩ := rel_owner t1 hhas (by rw [how]; exact fun e => hne e.symm) ⟨ho0, ho1⟩ hs
    have hx := hx.chg_new hc3 hS
    clear hs hl2 hc3
    go_wp2_with fail
    refine (owner_any b g h 32 _ _ _ ky _ (by omega) (by omega) hkys hl3 fu1 hfu1 hfree1).mono ?_
    rintro e w5 ⟨q, ok, hf, rfl, hx5⟩
    obtain ⟨rfl, rfl⟩ := t1.hit hhas hf
    have hl4 := hl3.ext hx5
    have hx := hx.trans hx5
    clear hl3 hf hx5
    go_wp2_with fail
    refine (acquire_any b g h 32 _ _ _ ky who _ (by omega) (by omega) hkys hl4 (by omega) (by omega) fu1 hfu1 hfree1).mono ?_
    rintro e w6 ⟨code, sl2, ow2, u2, rfl, hs, hl5, hc5⟩
    obtain ⟨rfl, rfl, rfl, rfl⟩ := acq_again t1 hhas how ⟨hw0, hw1⟩ hs
    have hx := hx.chg_new hc5 hS
    clear hs hl4 hc5
    go_wp2_with fail
    refine (awake25 _).mono ?_
    rintro e w7 ⟨rfl, hx7⟩
    have hl6 := hl5.ext hx7
    have hx := hx.trans hx7
    clear hl5 hx7
    go_wp2_with fail
    refine (release_any b g h 32 _ _ _ ky who _ (by omega) hkys hl6 t1 hK1 fu1 hfu1 hfree1).mono ?_
    rintro e w8 ⟨code, sl2, ow2, u2, rfl, hs, hl7, hc7⟩
    obtain ⟨rfl, rfl, s3, hdone, rfl, rfl⟩ := rel_free t1 hhas how ⟨hw0, hw1⟩ hs
    obtain ⟨t3, hh3, hfree3⟩ := rm_tab t1 _ hhas hfu1 hfree1 hdone
    have hno3 : ∀ i, ¬ Has 32 s3.sl ky i := fun i hi => ((hh3 ky _).1 ⟨i, hi.1, hi.2, rfl⟩).1 rfl
    have hK3 : ∀ i k, i < 32 → s3.sl i = some k → k.size ≤ maxLen := fun i k hi hk => by
      obtain ⟨_, i', hi', h1, _⟩ := (hh3 k _).1 ⟨i, hi, hk, rfl⟩
      exact hK1 i' k hi' h1
    have hx := hx.chg_new hc7 hS
    obtain ⟨sl4, hsl4⟩ : ∃ f, s3.sl = f := ⟨_, rfl⟩
    obtain ⟨ow4, how4⟩ : ∃ f, s3.pay = f := ⟨_, rfl⟩
    rw [hsl4] at t3 hno3 hK3 hfree3 hl7
    rw [how4] at hl7
    clear hs hl6 hc7 hh3 hdone hsl4 how4 t1 hhas hK1 hfree1 how
    go_wp2_with fail
    refine (owner_any b g h 32 _ _ _ ky _ (by omega) (by omega) hkys hl7 fu1 hfu1 hfree3).mono ?_
    rintro e w9 ⟨q, ok, hf, rfl, hx9⟩
    obtain ⟨rfl, _⟩ := Tab.miss hno3 hf
    have hl8 := hl7.ext hx9
    have hx := hx.trans hx9
    clear hl7 hf hx9
    go_wp2_with fail
    refine (release_any b g h 32 _ _ _ ky who _ (by omega) hkys hl8 t3 hK3 fu1 hfu1 hfree3).mono ?_
    rintro e w10 ⟨code, sl2, ow2, u2, rfl, hs, hl9, hc9⟩
    obtain ⟨rfl, rfl, rfl, rfl⟩ := rel_none hno3 ⟨hw0, hw1⟩ hs
    have hx := hx.chg_new hc9 hS
    clear hs hl8 hc9
    go_wp2_with fail
    refine (acquire_any b g h 32 _ _ _ ky oth _ (by omega) (by omega) hkys hl9 (by omega) (by omega) fu1 hfu1 hfree3).mono ?_
    rintro e w11 ⟨code, sl5, ow5, u5, rfl, hs, hl10, hc10⟩
    obtain ⟨rfl, p5, hf5, rfl, rfl, rfl⟩ := acq_new hno3 ⟨ho0, ho1⟩ (by omega) hs
    have t5 := t3.ins hf5
    have hhas5 : Has 32 (upd sl2 p5 (some ky)) ky p5 := ⟨hf5.lt, upd_same _ _ _⟩
    have how5 : upd ow2 p5 oth p5 = oth := upd_same _ _ _
    obtain ⟨fu5, hfu5, hfree5⟩ := t5.free (by omega)
    have hx := hx.chg_new hc10 hS
    clear hs hl9 hc10
    go_wp2_with fail
    refine (owner_any b g h 32 _ _ _ ky _ (by omega) (by omega) hkys hl10 fu5 hfu5 hfree5).mono ?_
    rintro e w12 ⟨q, ok, hf, rfl, hx12⟩
    obtain ⟨rfl, rfl⟩ := t5.hit hhas5 hf
    have hx := hx.trans hx12
    go_wp2_with fail
    go_ret
    exact ⟨rfl, Ext.below hx⟩
end locksExclusive
end Go.Proofs.Ytkhfjedeccjnbaa
