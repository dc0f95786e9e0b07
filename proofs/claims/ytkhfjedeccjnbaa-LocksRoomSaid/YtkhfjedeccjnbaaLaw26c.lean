/-
  The walk of StoreFull: it returns true and changes nothing that was there.
  Conditions: none.
-/
import Derived.Test.YtkhfjedeccjnbaaAwake26
import Derived.Test.YtkhfjedeccjnbaaClock
namespace Go.Proofs.Ytkhfjedeccjnbaa
open Go.RowKit Go.Sort
set_option maxHeartbeats 4000000

def keyOf (k : Nat) : ByteArray := ⟨#[UInt8.ofNat (k / 256), UInt8.ofNat k]⟩
theorem keyOf_size (k : Nat) : (keyOf k).size ≤ maxLen := by show 2 ≤ maxLen; unfold maxLen; omega
theorem keyOf_inj {j k : Nat} (hj : j < 1536) (hk : k < 1536) (h : keyOf j = keyOf k) : j = k := by
  unfold keyOf at h
  simp only [ByteArray.mk.injEq, Array.mk.injEq, List.cons.injEq] at h
  obtain ⟨h1, h2, _⟩ := h
  have e1 := congrArg UInt8.toNat h1
  have e2 := congrArg UInt8.toNat h2
  simp at e1 e2
  omega
/-- The table after k keys. -/
def FullTab (k : Nat) (n : Nat) (sl : Nat → Option ByteArray) (f : Nat → Rc) (u : Int) : Prop := StOk n sl u ∧ n = 2048 ∧ u = (k : Nat) ∧ ∀ key c, Holds n sl f key c ↔ (∃ j, j < k ∧ key = keyOf j) ∧ c = rcN
theorem full_ok : StOk 2048 (fun _ => none) 0 := ⟨tab_new (by omega), by omega, by omega, by omega, by decide, by simp⟩
theorem full_start : FullTab 0 2048 (fun _ => none) (fun _ => rc0) 0 := ⟨full_ok, rfl, rfl, fun key c => ⟨fun ⟨i, _, h, _⟩ => by simp at h, fun ⟨⟨j, h, _⟩, _⟩ => by omega⟩⟩
theorem full_step {k n : Nat} {sl : Nat → Option ByteArray} {f : Nat → Rc} {u : Int} (h : FullTab k n sl f u) (hk : k < 1536) {code : Int} {n' : Nat} {sl' : Nat → Option ByteArray} {f' : Nat → Rc} {u' : Int} (s : PutSpec n sl f u (keyOf k) rcN code n' sl' f' u') :
    code = 0 ∧ FullTab (k + 1) n' sl' f' u' := by
  obtain ⟨o, hn, hu, hH⟩ := h
  have hno : ∀ i, ¬ Has n sl (keyOf k) i := holds_none (f := f) fun c hc => by
    obtain ⟨⟨j, hj, e⟩, _⟩ := (hH _ c).1 hc
    have := keyOf_inj hk (by omega) e
    omega
  rcases put_new o rcN_check (by decide) hno s with ⟨h, _⟩ | ⟨rfl, hu', ⟨rfl, _⟩ | ⟨_, h, _⟩⟩
  · omega
  · obtain ⟨o', hH'⟩ := put_ok_holds o (keyOf_size k) (by decide) s
    refine ⟨rfl, o', hn, by omega, fun key c => (hH' key c).trans ?_⟩
    rw [hH]
    constructor
    · rintro (⟨rfl, rfl⟩ | ⟨_, ⟨j, a, b⟩, c⟩)
      · exact ⟨⟨k, by omega, rfl⟩, rfl⟩
      · exact ⟨⟨j, by omega, b⟩, c⟩
    · rintro ⟨⟨j, a, b⟩, c⟩
      by_cases e : key = keyOf k
      · exact .inl ⟨e, c⟩
      · exact .inr ⟨e, ⟨j, by rcases (show j < k ∨ j = k by omega) with h | rfl; exact h; exact absurd b e, b⟩, c⟩
  · omega
theorem size_ne {a b : ByteArray} (h : a.size ≠ b.size) : a ≠ b := fun e => h (by rw [e])
/-- A key of another length is not in the table, which is full. -/
theorem full_more {n : Nat} {sl : Nat → Option ByteArray} {f : Nat → Rc} {u : Int} (h : FullTab 1536 n sl f u) {key : ByteArray} (hk : key.size ≠ 2) {code : Int} {n' : Nat} {sl' : Nat → Option ByteArray} {f' : Nat → Rc} {u' : Int} (s : PutSpec n sl f u key rcN code n' sl' f' u') :
    code = 7 ∧ n' = n ∧ sl' = sl ∧ f' = f ∧ u' = u := by
  obtain ⟨o, hn, hu, hH⟩ := h
  have hno : ∀ i, ¬ Has n sl key i := holds_none (f := f) fun c hc => by
    obtain ⟨⟨j, _, e⟩, _⟩ := (hH _ c).1 hc
    exact size_ne (b := keyOf j) hk e
  rcases put_new o rcN_check (by decide) hno s with ⟨_, _, h⟩ | ⟨_, _, ⟨_, h⟩ | ⟨_, _, h⟩⟩
  · exact h
  · omega
  · omega
/-- A record that is not free, for a key that is there. -/
theorem put_has {n : Nat} {sl : Nat → Option ByteArray} {f : Nat → Rc} {u : Int} (o : StOk n sl u) {key : ByteArray} {r : Rc} (hc : r.check = true) (hst : r.st ≠ 0) {i : Nat} (hi : Has n sl key i) {code : Int} {n' : Nat} {sl' : Nat → Option ByteArray} {f' : Nat → Rc} {u' : Int} (s : PutSpec n sl f u key r code n' sl' f' u') :
    code = 0 ∧ n' = n ∧ sl' = sl ∧ u' = u := by
  rcases s with ⟨h, _⟩ | ⟨_, p, ok, hf, s⟩
  · rw [hc] at h; simp at h
  · obtain ⟨rfl, _⟩ := o.tab.hit hi hf
    rcases s with ⟨h0, _⟩ | ⟨h0, _⟩ | ⟨_, _, h1, h2, h3, _, h4⟩ | ⟨_, h, _⟩ | ⟨_, h, _⟩ | ⟨_, h, _⟩
    · exact absurd h0 hst
    · exact absurd h0 hst
    · exact ⟨h1, h2, h3, h4⟩
    · simp at h
    · simp at h
    · simp at h
/-- The free record, for a key that is not there. -/
theorem put_none {n : Nat} {sl : Nat → Option ByteArray} {f : Nat → Rc} {u : Int} {key : ByteArray} {r : Rc} (hc : r.check = true) (hst : r.st = 0) (hno : ∀ i, ¬ Has n sl key i) {code : Int} {n' : Nat} {sl' : Nat → Option ByteArray} {f' : Nat → Rc} {u' : Int} (s : PutSpec n sl f u key r code n' sl' f' u') :
    code = 0 ∧ n' = n ∧ sl' = sl ∧ f' = f ∧ u' = u := by
  rcases s with ⟨h, _⟩ | ⟨_, p, ok, hf, s⟩
  · rw [hc] at h; simp at h
  · obtain ⟨rfl, _⟩ := Tab.miss hno hf
    rcases s with ⟨_, h, _⟩ | ⟨_, _, h1, h2, h3, h4, h5⟩ | ⟨h, _⟩ | ⟨h, _⟩ | ⟨h, _⟩ | ⟨h, _⟩
    · simp at h
    · exact ⟨h1, h2, h3, h4, h5⟩
    · exact absurd hst h
    · exact absurd hst h
    · exact absurd hst h
    · exact absurd hst h
/-- The free record, for a key that is there. -/
theorem put_del {n : Nat} {sl : Nat → Option ByteArray} {f : Nat → Rc} {u : Int} (o : StOk n sl u) {key : ByteArray} {r : Rc} (hc : r.check = true) (hst : r.st = 0) {i : Nat} (hi : Has n sl key i) {code : Int} {n' : Nat} {sl' : Nat → Option ByteArray} {f' : Nat → Rc} {u' : Int} (s : PutSpec n sl f u key r code n' sl' f' u') :
    code = 0 ∧ n' = n ∧ u' = u - 1 ∧ ∀ k, (∀ i, ¬ Has n sl k i) → ∀ i, ¬ Has n' sl' k i := by
  rcases s with ⟨h, _⟩ | ⟨_, p, ok, hf, s⟩
  · rw [hc] at h; simp at h
  · obtain ⟨rfl, rfl⟩ := o.tab.hit hi hf
    rcases s with ⟨_, _, h1, h2, h3, s, hd, rfl, rfl⟩ | ⟨_, h, _⟩ | ⟨h, _⟩ | ⟨h, _⟩ | ⟨h, _⟩ | ⟨h, _⟩
    · subst h2
      obtain ⟨fu, hfu, hfree⟩ := o.free
      obtain ⟨_, hH, _⟩ := rm_tab o.tab f hi hfu hfree hd
      refine ⟨h1, rfl, h3, fun k hk j hj => ?_⟩
      obtain ⟨_, x, hx, a, _⟩ := (hH k _).1 ⟨j, hj.1, hj.2, rfl⟩
      exact hk x ⟨hx, a⟩
    · simp at h
    · exact absurd hst h
    · exact absurd hst h
    · exact absurd hst h
    · exact absurd hst h
/-- The store of the walk, in blocks of its own, beside the record in block rb. -/
structure FS (w : World) (b rb : Nat) (wr : World) (g h n : Nat) (sl : Nat → Option ByteArray) (f : Nat → Rc) (u : Int) : Prop where
  x : StoreAt wr b g h n sl f u
  ext : Ext w wr
  rec_ : RecAt wr rb 2 0 0 ⟨#[110]⟩
  hb : w.heap.size ≤ b
  hg : w.heap.size ≤ g
  hh : w.heap.size ≤ h
  nb : b ≠ rb
  ng : g ≠ rb
  nh : h ≠ rb
theorem FS.on {w : World} {b rb : Nat} {wr w' : World} {g h n : Nat} {sl : Nat → Option ByteArray} {f : Nat → Rc} {u : Int} (F : FS w b rb wr g h n sl f u) (x : Ext wr w') : FS w b rb w' g h n sl f u :=
  ⟨F.x.ext x, F.ext.trans x, F.rec_.ext x, F.hb, F.hg, F.hh, F.nb, F.ng, F.nh⟩
theorem FS.put {w : World} {b rb : Nat} {wr w4 : World} {g h n : Nat} {sl : Nat → Option ByteArray} {f : Nat → Rc} {u : Int} (F : FS w b rb wr g h n sl f u) {g1 h1 n1 : Nat} {sl1 : Nat → Option ByteArray} {f1 : Nat → Rc} {u1 : Int}
    (hl : StoreAt w4 b g1 h1 n1 sl1 f1 u1) (hgh : (g1 = g ∧ h1 = h) ∨ (wr.heap.size ≤ g1 ∧ wr.heap.size ≤ h1)) (hc : Chg (fun k => k = b ∨ k = g ∨ k = h) wr w4) : FS w b rb w4 g1 h1 n1 sl1 f1 u1 := by
  have hz := F.ext.size
  have hr := lt_of_cell F.rec_.1
  simp only at hr
  refine ⟨hl, F.ext.chg_new hc (by rintro i (rfl | rfl | rfl); exact F.hb; exact F.hg; exact F.hh), F.rec_.chg hc (by rintro (e | e | e); exact F.nb e.symm; exact F.ng e.symm; exact F.nh e.symm), F.hb, ?_, ?_, F.nb, ?_, ?_⟩
  · rcases hgh with ⟨rfl, _⟩ | ⟨q, _⟩
    · exact F.hg
    · omega
  · rcases hgh with ⟨_, rfl⟩ | ⟨_, q⟩
    · exact F.hh
    · omega
  · rcases hgh with ⟨rfl, _⟩ | ⟨q, _⟩
    · exact F.ng
    · omega
  · rcases hgh with ⟨_, rfl⟩ | ⟨_, q⟩
    · exact F.nh
    · omega
theorem key_conv (k : Nat) (hk : k < 1536) (w : World) : (convert 81 9 (.slice (some ⟨w.heap.size, 0, none⟩) 2 2)).run Try.prog (w.alloc (.cells #[.int .u8 ((k : Int) / 256), .int .u8 ((k : Int) % 256)] 5)) = .ok (.string (keyOf k)) (w.alloc (.cells #[.int .u8 ((k : Int) / 256), .int .u8 ((k : Int) % 256)] 5)) := by
  refine run_convert_bytes_back _ 81 9 5 ⟨w.heap.size, 0, none⟩ 2 [UInt8.ofNat (k / 256), UInt8.ofNat k] und_bytes und_byte und_str fun j hj => ?_
  have h1 : (w.alloc (.cells #[.int .u8 ((k : Int) / 256), .int .u8 ((k : Int) % 256)] 5)).heap[w.heap.size]? = some (.cells #[.int .u8 ((k : Int) / 256), .int .u8 ((k : Int) % 256)] 5) := heap_alloc_new w _
  rw [add_head]
  simp only [World.cell?, h1]
  rcases (show j = 0 ∨ j = 1 by simp at hj; omega) with rfl | rfl
  · have e : (UInt8.ofNat (k / 256)).toNat = k / 256 := by simp; omega
    show some (Value.int .u8 ((k : Int) / 256)) = some (.int .u8 ((UInt8.ofNat (k / 256)).toNat : Int))
    rw [e]; rfl
  · have e : (UInt8.ofNat k).toNat = k % 256 := by simp
    show some (Value.int .u8 ((k : Int) % 256)) = some (.int .u8 ((UInt8.ofNat k).toNat : Int))
    rw [e]; rfl
set_option maxRecDepth 100000
namespace storeFull
theorem walk (a0 : Int) (w : World) (_ : I64 a0) :
    Calls Try.prog 19 #[.int .i64 a0] w fun e w' => e = .returned (.bool true) ∧ Below w.heap.size w w' := by
  go_enter Try.func19, Try.ntmps19
  go_wp2_with fail
  refine (snew_any 2048 _).mono ?_
  rintro e w1 (⟨hp, _⟩ | ⟨_, b, g, h, rfl, hb, hg, hh, hl, hx1⟩)
  · exact absurd hp (by decide)
  have hl1 : StoreAt w1 b g h 2048 (fun _ => none) (fun _ => rc0) 0 := hl
  have hz1 := hx1.size
  have hb1 := hl1.2.2.2.1
  have hg1 : g < w1.heap.size := hl1.2.2.2.2.2.2.2.2.1.1
  have hh1 : h < w1.heap.size := hl1.2.2.2.2.2.2.2.2.2.1
  have hr1 : RecAt (w1.alloc (.cells #[.int .i64 2, .int .i64 0, .string ⟨#[110]⟩, .int .i64 0] 30)) w1.heap.size 2 0 0 ⟨#[110]⟩ := by
    refine ⟨?_, ?_, ?_, ?_, fun i => ?_⟩ <;> go_simp
  have Hl1 := Lib.hid (hl1.ext ((Ext.refl _).alloc (.cells #[.int .i64 2, .int .i64 0, .string ⟨#[110]⟩, .int .i64 0] 30)))
  have Hx1 := Lib.hid (hx1.alloc (.cells #[.int .i64 2, .int .i64 0, .string ⟨#[110]⟩, .int .i64 0] 30))
  have Hr1 := Lib.hid hr1
  clear hl hl1 hx1 hr1
  go_wp2_with fail
  go_loopw [7] (fun o wr => ∃ k : Nat, k ≤ 1536 ∧ o = .int .i64 (k : Int) ∧ Ext w wr ∧ RecAt wr w1.heap.size 2 0 0 ⟨#[110]⟩ ∧ ∃ g h n sl f u, StoreAt wr b g h n sl f u ∧ FullTab k n sl f u ∧ w.heap.size ≤ g ∧ w.heap.size ≤ h ∧ g ≠ w1.heap.size ∧ h ≠ w1.heap.size) (fun o _ => 1536 - (intOf o).toNat)
  case atStart => exact ⟨0, by omega, rfl, Hx1.out, Hr1.out, g, h, _, _, _, _, Hl1.out, full_start, hg, hh, by omega, by omega⟩
  case round =>
    clear Hl1 Hx1 Hr1
    obtain ⟨k, hk6, rfl, hx, hr, g, h, n, sl, f, u, hl, ht, hg, hh, hgr, hhr⟩ := hrel
    have Hx := Lib.hid hx
    have Hr := Lib.hid hr
    have Hl := Lib.hid hl
    have Ht := Lib.hid ht
    have hzw := hx.size
    have hrl := lt_of_cell hr.1
    simp only at hrl
    clear hx hl ht
    obtain ⟨r0, r1, r2, r3, rf⟩ := hr
    by_cases hk : k < 1536
    · have hd : decide ((k : Int) < 1536) = true := by simp; omega
      have hkc := key_conv k hk wr
      have hks := keyOf_size k
      go_wp2_with fail
      clear hkc
      have hxa : Ext wr (wr.alloc (.cells #[.int .u8 ((k : Int) / 256), .int .u8 ((k : Int) % 256)] 5)) := (Ext.refl wr).alloc _
      refine (sput_any b g h n sl f u (keyOf k) 2 0 0 ⟨#[110]⟩ _ Ht.out.1 hks (Hl.out.ext hxa)).mono ?_
      rintro e w4 ⟨code, n1, g1, h1, sl1, f1, u1, rfl, hs1, hl1, hgh1, hc1⟩
      obtain ⟨rfl, ht1⟩ := full_step Ht.out hk hs1
      have hxs := hxa.size
      have Hx4 := Lib.hid ((Hx.out.trans hxa).chg_new hc1 (by rintro i (rfl | rfl | rfl) <;> assumption))
      have Hr4 := Lib.hid ((Hr.out.ext hxa).chg hc1 (by rintro (e | e | e); omega; exact hgr e.symm; exact hhr e.symm))
      have hb4 : w.heap.size ≤ g1 ∧ w.heap.size ≤ h1 ∧ g1 ≠ w1.heap.size ∧ h1 ≠ w1.heap.size := by
        rcases hgh1 with ⟨rfl, rfl⟩ | ⟨q1, q2⟩
        · exact ⟨hg, hh, hgr, hhr⟩
        · exact ⟨by omega, by omega, by omega, by omega⟩
      have Hl1 := Lib.hid hl1
      have Ht1 := Lib.hid ht1
      clear hs1 hl1 hgh1 hc1 ht1 hxa r0 r1 r2 r3 rf
      go_wp2_with fail
      go_roundw
      case rel => exact ⟨k + 1, by omega, by go_num, Hx4.out, Hr4.out, g1, h1, n1, sl1, f1, u1, Hl1.out, Ht1.out, hb4.1, hb4.2.1, hb4.2.2.1, hb4.2.2.2⟩
      case measure => simp [intOf]; omega
    · have hd : decide ((k : Int) < 1536) = false := by simp; omega
      have hke : k = 1536 := by omega
      subst hke
      have hpb := pickI_bd a0 1536 (by omega)
      obtain ⟨j, hj⟩ : ∃ j : Nat, pickI a0 1536 = (j : Int) := ⟨(pickI a0 1536).toNat, by omega⟩
      have hj1 : j < 1536 := by omega
      have hkc := fun w => key_conv j hj1 w
      have hks := keyOf_size j
      have hn2 : n = 2048 := Ht.out.2.1
      have hno1 : ∀ key : ByteArray, key.size ≠ 2 → ∀ i, ¬ Has n sl key i := fun key hk => holds_none (f := f) fun c hc => by
        obtain ⟨⟨x, _, e⟩, _⟩ := (Ht.out.2.2.2 _ c).1 hc
        exact size_ne (b := keyOf x) hk e
      obtain ⟨i0, hhas, _⟩ := ((Ht.out.2.2.2 (keyOf j) rcN).2 ⟨⟨j, hj1, rfl⟩, rfl⟩).has
      have Hno1 := Lib.hid hno1
      have Hhas := Lib.hid hhas
      have Hn2 := Lib.hid hn2
      clear hno1 hhas hn2 hpb
      go_wp2_with (go_at_call 29; refine (pick_any _ _ (by omega) (by omega) _).mono ?_; rintro e w' ⟨rfl, rfl⟩; rw [hj])
      have hF : FS w b w1.heap.size wr g h n sl f u := ⟨Hl.out, Hx.out, Hr.out, hb, hg, hh, by omega, hgr, hhr⟩
      have o := Ht.out.1
      have hF1 := hF.on ((Ext.refl wr).alloc (.cells #[.int .u8 ((j : Int) / 256), .int .u8 ((j : Int) % 256)] 5))
      have HF1 := Lib.hid hF1
      clear hkc hF hF1 r0 r1 r2 r3 rf
      -- Put("new", r) is refused
      refine (sput_any b g h n sl f u ⟨#[110, 101, 119]⟩ 2 0 0 ⟨#[110]⟩ _ o (by decide) HF1.out.x).mono ?_
      rintro e w4 ⟨code, n1, g1, h1, sl1, f1, u1, rfl, hs1, hl1, hgh1, hc1⟩
      obtain ⟨rfl, rfl, rfl, rfl, rfl⟩ := full_more Ht.out (key := ⟨#[110, 101, 119]⟩) (by decide) hs1
      have HF2 := Lib.hid (HF1.out.put hl1 hgh1 hc1)
      clear hs1 hl1 hgh1 hc1 HF1
      go_wp2_with fail
      -- a record in the place of another
      refine (sput_any b g1 h1 _ _ _ _ (keyOf j) 1 0 4 ⟨#[109]⟩ _ o hks HF2.out.x).mono ?_
      rintro e w5 ⟨code, n2, g2, h2, sl2, f2, u2, rfl, hs2, hl2, hgh2, hc2⟩
      obtain ⟨rfl, rfl, rfl, rfl⟩ := put_has o (by decide) (by decide) Hhas.out hs2
      have HF3 := Lib.hid (HF2.out.put hl2 hgh2 hc2)
      clear hs2 hl2 hgh2 hc2 HF2
      go_wp2_with fail
      -- nothing for a key that is not there
      refine (sput_any b g2 h2 _ _ _ _ ⟨#[110, 111, 110, 101]⟩ 0 0 0 ⟨#[]⟩ _ o (by decide) HF3.out.x).mono ?_
      rintro e w6 ⟨code, n3, g3, h3, sl3, f3, u3, rfl, hs3, hl3, hgh3, hc3⟩
      obtain ⟨rfl, rfl, rfl, rfl, rfl⟩ := put_none (by decide) (by decide) (Hno1.out _ (by decide)) hs3
      have HF4 := Lib.hid (HF3.out.put hl3 hgh3 hc3)
      clear hs3 hl3 hgh3 hc3 HF3
      go_wp2_with fail
      -- a key is removed
      refine (sput_any b g3 h3 _ _ _ _ (keyOf j) 0 0 0 ⟨#[]⟩ _ o hks HF4.out.x).mono ?_
      rintro e w7 ⟨code, n4, g4, h4, sl4, f4, u4, rfl, hs4, hl4, hgh4, hc4⟩
      have o4 := (put_law o hks hs4).1
      obtain ⟨rfl, rfl, hu4, hno4⟩ := put_del o (by decide) (by decide) Hhas.out hs4
      have HF5 := Lib.hid (HF4.out.put hl4 hgh4 hc4)
      have Hno4 := Lib.hid (hno4 _ (Hno1.out ⟨#[110, 101, 119]⟩ (by decide)))
      have Hu4 := Lib.hid hu4
      clear hs4 hl4 hgh4 hc4 HF4 hno4 hu4
      go_wp2_with fail
      refine (awake26 _).mono ?_
      rintro e w8 ⟨rfl, hx8⟩
      have HF6 := Lib.hid (HF5.out.on hx8)
      obtain ⟨r0, r1, r2, r3, _⟩ := HF6.out.rec_
      clear hx8
      go_wp2_with fail
      refine (sput_any b g4 h4 _ _ _ _ ⟨#[110, 101, 119]⟩ 2 0 0 ⟨#[110]⟩ _ o4 (by decide) HF6.out.x).mono ?_
      rintro e w9 ⟨code, n5, g5, h5, sl5, f5, u5, rfl, hs5, hl5, hgh5, hc5⟩
      have hu5 : code = 0 ∧ u5 = 1536 := by
        have e1 := Ht.out.2.2.1
        have e2 := Hu4.out
        have e3 := Hn2.out
        rcases put_new o4 (r := ⟨2, 0, ⟨#[110]⟩, 0⟩) (by decide) (by decide) Hno4.out hs5 with ⟨h, _⟩ | ⟨h1, h2, _⟩
        · omega
        · exact ⟨h1, by omega⟩
      obtain ⟨rfl, rfl⟩ := hu5
      have HF7 := Lib.hid (HF6.out.put hl5 hgh5 hc5)
      clear hs5 hl5 hgh5 hc5 r0 r1 r2 r3
      go_wp2_with fail
      refine (slen_any b g5 h5 n5 sl5 f5 1536 _ HF7.out.x).mono ?_
      rintro e w10 ⟨rfl, rfl⟩
      go_wp2_with fail
      go_ret
      exact ⟨rfl, Ext.below HF7.out.ext⟩
end storeFull
end Go.Proofs.Ytkhfjedeccjnbaa
