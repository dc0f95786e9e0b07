/-
  The walk of StoreProbes: it returns true and changes nothing that was there.
  Conditions: none.
-/
import Derived.Test.YtkhfjedeccjnbaaSKeys
import Derived.Test.YtkhfjedeccjnbaaSlots
import Derived.Test.YtkhfjedeccjnbaaWay
import Derived.Test.YtkhfjedeccjnbaaRStore
import Derived.Deep.CutBlock
namespace Go.Proofs.Ytkhfjedeccjnbaa
open Go.RowKit Go.Sort
set_option maxHeartbeats 8000000

theorem StoreAt.chg_far {w w' : World} {b g h n sb : Nat} {sl : Nat → Option ByteArray} {f : Nat → Rc} {u : Int} (k : StoreAt w b g h n sl f u) (c : Chg (· = sb) w w') (h1 : b ≠ sb) (h2 : g ≠ sb) (h3 : h ≠ sb) : StoreAt w' b g h n sl f u :=
  k.keep c.size (c.block b k.2.2.2.1 h1) (c.block g k.2.2.2.2.2.2.2.2.1.1 h2) (c.block h k.2.2.2.2.2.2.2.2.2.1 h3)
theorem key26_any (b B : Nat) (w : World) (hsrc : Src B w b) : Calls Try.prog 83 #[.pointer (some ⟨b, 0, none⟩)] w (KeyPost B b w) := by
  go_enter Try.func83, Try.ntmps83
  go_wp2_with fail
  refine (next_any _ _ (by omega) (by omega) _ B hsrc).mono ?_
  rintro e w1 ⟨v, hv, rfl, hsrc2, hc, hz⟩
  have hv2 : v ≤ 25 := by omega
  go_wp2_with fail
  go_ret
  exact ⟨_, by simp; show min (v + 1) 26 - v = 1; omega, rfl, hsrc2, hc⟩
/-- The cells of a slice of n slots in memory. -/
theorem srd_slot {w : World} {S : Nat → Prop} {g o n c : Nat} {sl : Nat → Option ByteArray} (h : Rd w S 2 (.slice (some ⟨g, o, none⟩) n c) n (slotCells n sl)) {i : Nat} (hi : i < n) :
    w.cell? ⟨g, o + i * 2, none⟩ = some (.bool (sl i).isSome) ∧ w.cell? ⟨g, o + i * 2 + 1, none⟩ = some (.string ((sl i).getD ⟨#[]⟩)) := by
  obtain ⟨g', o', c', e, _, _, _, _, hc⟩ := h.at_ hi
  simp only [Value.slice.injEq, Option.some.injEq, Addr.mk.injEq] at e
  obtain ⟨⟨rfl, rfl, _⟩, _⟩ := e
  obtain ⟨a, b⟩ := slotCells_at sl hi
  have h2 := hc _ _ b
  rw [← Nat.add_assoc] at h2
  exact ⟨hc _ _ a, h2⟩
theorem size_one {s : ByteArray} (h : s.size = 1) : s.size ≤ maxLen := by rw [h]; unfold maxLen; omega
/-- What the store of the walk is like. -/
def SPrI (B b sb : Nat) (w wr : World) : Prop := ∃ g h n sl f u, StoreAt wr b g h n sl f u ∧ StOk n sl u ∧ B ≤ g ∧ B ≤ h ∧ g ≠ sb ∧ h ≠ sb ∧ Src B wr sb ∧ Ext w wr
set_option maxRecDepth 100000
namespace storeProbes
theorem walk (a : Option Addr) (len cap : Nat) (zs : List Int) (w : World) (hrow : IsRow .i64 w a len cap zs) :
    Calls Try.prog 27 #[.slice a len cap] w fun e w' => e = .returned (.bool true) ∧ Below w.heap.size w w' := by
  go_enter Try.func27, Try.ntmps27
  go_wp2_with fail
  refine (snew_any 4 _).mono ?_
  rintro e w1 (⟨hp, _⟩ | ⟨_, b, g, h, rfl, hb, hg, hh, hl, hx⟩)
  · exact absurd hp (by decide)
  have hl1 : StoreAt w1 b g h 4 (fun _ => none) (fun _ => rc0) 0 := hl
  clear hl
  go_wp2_with fail
  refine (from_any _ _ _ _).mono ?_
  rintro e w2 ⟨rfl, rfl⟩
  have hsrc : Src w.heap.size (w1.alloc (.cells #[.slice a len cap, .int .i64 0] 104)) w1.heap.size := src_of_row hrow hx
  have hbl : b < w1.heap.size := hl1.2.2.2.1
  have hgl : g < w1.heap.size := hl1.2.2.2.2.2.2.2.2.1.1
  have hhl : h < w1.heap.size := hl1.2.2.2.2.2.2.2.2.2.1
  have hl2 := hl1.ext ((Ext.refl _).alloc (.cells #[.slice a len cap, .int .i64 0] 104))
  have hx2 := hx.alloc (.cells #[.slice a len cap, .int .i64 0] 104)
  obtain ⟨sb, hsb⟩ : ∃ sb, w1.heap.size = sb := ⟨_, rfl⟩
  rw [hsb] at hsrc hbl hgl hhl
  have hsB : w.heap.size ≤ sb := by rw [← hsb]; exact hx.size
  obtain ⟨w2, hw2⟩ : ∃ w2, w1.alloc (.cells #[.slice a len cap, .int .i64 0] 104) = w2 := ⟨_, rfl⟩
  rw [hw2] at hsrc hl2 hx2 ⊢
  rw [hsb]
  have HP := Lib.hid (show SPrI w.heap.size b sb w w2 from ⟨g, h, 4, _, _, _, hl2, st_new, hg, hh, by omega, by omega, hsrc, hx2⟩)
  have hbS : b ≠ sb := by omega
  clear hsb hw2 hl1 hx hrow hsrc hl2 hx2 hg hh hgl hhl hbl
  clear g h
  go_wp2_with fail
  go_loopw [6] (fun o wr => ∃ k : Nat, k ≤ 60 ∧ o = .int .i64 (k : Int) ∧ SPrI w.heap.size b sb w wr) (fun o _ => (60 - intOf o).toNat)
  case atStart => exact ⟨0, by omega, rfl, HP.out⟩
  case round =>
    clear HP
    obtain ⟨k, hk60, rfl, g, h, n, sl, f, u, hl, ho, hg, hh, hgS, hhS, hsrc, hx⟩ := hrel
    by_cases hk : k < 60
    · have hd : decide ((k : Int) < 60) = true := by simp; omega
      have Hl := Lib.hid hl
      have Ho := Lib.hid ho
      have Hx := Lib.hid hx
      clear hl ho hx
      go_wp2_with fail
      refine (left_src _ _ _ hsrc).mono ?_
      rintro e w3 ⟨⟨v, rfl⟩, hsrc3, hc3⟩
      have Hl3 := Lib.hid (Hl.out.chg_far hc3 hbS hgS hhS)
      have Hx3 := Lib.hid (Hx.out.chg_new hc3 (fun i hi => by subst hi; exact hsB))
      clear hsrc hc3 Hl Hx
      cases v
      · go_wp2_with fail
        refine (awake26 _).mono ?_
        rintro e w4 ⟨rfl, hx4⟩
        have Hx4 := Lib.hid (Hx3.out.trans hx4)
        clear hx4
        go_wp2_with fail
        go_ret
        exact ⟨rfl, Ext.below Hx4.out⟩
      · have hz3 := Hx3.out.size
        have hsl := hsrc3.lt
        have Hr4 := Lib.hid (show RecAt (w3.alloc (.cells #[.int .i64 2, .int .i64 0, .string ⟨#[110]⟩, .int .i64 0] 30)) w3.heap.size 2 0 0 ⟨#[110]⟩ from ⟨by go_simp, by go_simp, by go_simp, by go_simp, fun i => by go_simp⟩)
        have hsrc4 := hsrc3.alloc (.cells #[.int .i64 2, .int .i64 0, .string ⟨#[110]⟩, .int .i64 0] 30)
        have Hl4 := Lib.hid (Hl3.out.ext ((Ext.refl _).alloc (.cells #[.int .i64 2, .int .i64 0, .string ⟨#[110]⟩, .int .i64 0] 30)))
        have Hx4 := Lib.hid (Hx3.out.alloc (.cells #[.int .i64 2, .int .i64 0, .string ⟨#[110]⟩, .int .i64 0] 30))
        have hbl := Hl3.out.2.2.2.1
        have hgl := Hl3.out.2.2.2.2.2.2.2.2.1.1
        have hhl := Hl3.out.2.2.2.2.2.2.2.2.2.1
        obtain ⟨rb, hrb⟩ : ∃ rb, w3.heap.size = rb := ⟨_, rfl⟩
        have hrS : rb ≠ sb := by omega
        have hrb0 : w.heap.size ≤ rb := by omega
        have hrbl : rb < (w3.alloc (.cells #[.int .i64 2, .int .i64 0, .string ⟨#[110]⟩, .int .i64 0] 30)).heap.size := by simp; omega
        have hbr : b ≠ rb := by omega
        have hgr : g ≠ rb := by omega
        have hhr : h ≠ rb := by omega
        rw [hrb] at Hr4
        go_wp2_with fail
        refine (next_any _ _ (by omega) (by omega) _ _ hsrc4).mono ?_
        rintro e w6 ⟨v2, hv2, rfl, hsrc6, hc6, _⟩
        have Hl6 := Lib.hid (Hl4.out.chg_far hc6 hbS hgS hhS)
        have Hx6 := Lib.hid (Hx4.out.chg_new hc6 (fun i hi => by subst hi; exact hsB))
        have Hr6 := Lib.hid (Hr4.out.chg hc6 hrS)
        have hz6 := hc6.size
        clear hc6 hsrc4 Hl4 Hx4 Hr4 Hl3 Hx3 hsrc3
        go_upto_if 38 with fail
        go_cut [6] from 36 to 39 (fun o wx => o = .int .i64 (k : Int) ∧ ∃ st ow dl nm, RecAt wx rb st ow dl nm ∧ StoreAt wx b g h n sl f u ∧ Src w.heap.size wx sb ∧ Ext w wx)
        case first =>
          obtain ⟨p0, p1, p2, p3, hrf⟩ := Hr6.out
          by_cases hv0 : v2 = 0
          · subst hv0
            go_wp2_with fail
            go_meet
            refine ⟨rfl, 0, 0, 0, ⟨#[]⟩, Hr6.out.set 0 0 0 ⟨#[]⟩, ?_, ?_, ?_⟩
            · have hl := Hl6.out
              exact hl.chg_far (sb := rb) ((((Chg.refl (· = rb) w6).setCell (p := ⟨rb, 0, none⟩) (.inl rfl) _).setCell (p := ⟨rb, 1, none⟩) (.inl rfl) _).setCell (p := ⟨rb, 2, none⟩) (.inl rfl) _ |>.setCell (p := ⟨rb, 3, none⟩) (.inl rfl) _) hbr hgr hhr
            · exact (((hsrc6.setCell (p := ⟨rb, 0, none⟩) hrb0 hrS _).setCell (p := ⟨rb, 1, none⟩) hrb0 hrS _).setCell (p := ⟨rb, 2, none⟩) hrb0 hrS _).setCell (p := ⟨rb, 3, none⟩) hrb0 hrS _
            · exact ext_setCell (p := ⟨rb, 3, none⟩) (ext_setCell (p := ⟨rb, 2, none⟩) (ext_setCell (p := ⟨rb, 1, none⟩) (ext_setCell (p := ⟨rb, 0, none⟩) Hx6.out hrb0 _) hrb0 _) hrb0 _) hrb0 _
          · have hv1 : (v2 : Int) ≠ 0 := by omega
            have hv3 : ((v2 : Int) == 0) = false := by simpa using hv1
            clear hv1
            go_wp2_with fail
            go_meet
            exact ⟨rfl, 2, 0, 0, ⟨#[110]⟩, Hr6.out, Hl6.out, hsrc6, Hx6.out⟩
        case rest =>
          clear Hl6 Hx6 Hr6 hsrc6
          obtain ⟨rfl, st, ow, dl, nm, hr, hl, hsrc7, hx⟩ := hcut
          have Hr7 := Lib.hid hr
          have Hl7 := Lib.hid hl
          have Hx7 := Lib.hid hx
          have hS : ∀ i, (i = b ∨ i = g ∨ i = h) → w.heap.size ≤ i := by rintro i (rfl | rfl | rfl) <;> assumption
          have hsS : ¬ (sb = b ∨ sb = g ∨ sb = h) := by rintro (e | e | e); exact hbS e.symm; exact hgS e.symm; exact hhS e.symm
          have hrN : ¬ (rb = b ∨ rb = g ∨ rb = h) := by rintro (e | e | e); exact hbr e.symm; exact hgr e.symm; exact hhr e.symm
          have hBS : ∀ i, i < w.heap.size → ¬ (i = b ∨ i = g ∨ i = h) := fun i hi e => absurd (hS i e) (by omega)
          obtain ⟨r0, r1, r2, r3, r4⟩ := hr
          have hz7 := lt_of_cell r0
          simp only at hz7
          clear hl hx
          go_wp2_with fail
          go_region_held3 (fun w' => w'.cell? ⟨rb, 0, none⟩ = some (.int .i64 st) ∧ w'.cell? ⟨rb, 1, none⟩ = some (.int .i64 ow) ∧ w'.cell? ⟨rb, 2, none⟩ = some (.string nm) ∧ w'.cell? ⟨rb, 3, none⟩ = some (.int .i64 dl)) (go_keep)
            (first
              | (go_at_call 83; refine (key26_any _ _ _ (hsrc7.ext (by repeat' (first | exact Ext.refl _ | assumption | apply Ext.alloc | apply Ext.drewN | apply Ext.drew | (refine Ext.trans ?_ (by assumption)) | (refine ext_setCell ?_ (by first | (simp; done) | (simp; omega)) _))))).mono ?_; rintro e w8 ⟨s1, hs1, rfl, hsrc8, hc8⟩; have hks := size_one hs1; have Hl8 := Lib.hid ((Hl7.out.ext (show Ext _ _ from (by repeat' (first | exact Ext.refl _ | assumption | apply Ext.alloc | apply Ext.drewN | apply Ext.drew | (refine Ext.trans ?_ (by assumption)) | (refine ext_setCell ?_ (by first | (simp; done) | (simp; omega)) _))))).chg_far hc8 hbS hgS hhS); have Hr8 := Lib.hid ((Hr7.out.ext (show Ext _ _ from (by repeat' (first | exact Ext.refl _ | assumption | apply Ext.alloc | apply Ext.drewN | apply Ext.drew | (refine Ext.trans ?_ (by assumption)) | (refine ext_setCell ?_ (by first | (simp; done) | (simp; omega)) _))))).chg hc8 hrS); have Hx8 := Lib.hid ((Hx7.out.trans (show Ext _ _ from (by repeat' (first | exact Ext.refl _ | assumption | apply Ext.alloc | apply Ext.drewN | apply Ext.drew | (refine Ext.trans ?_ (by assumption)) | (refine ext_setCell ?_ (by first | (simp; done) | (simp; omega)) _))))).chg_new hc8 (fun i hi => by subst hi; exact hsB)); have hz8 := hc8.size; obtain ⟨q0, q1, q2, q3, q4⟩ := Hr8.out; clear hc8)
              | (go_at_call 68; refine (sput_any b g h n sl f u s1 st ow dl nm _ Ho.out hks (Hl8.out.ext (by repeat' (first | exact Ext.refl _ | assumption | apply Ext.alloc | apply Ext.drewN | apply Ext.drew | (refine Ext.trans ?_ (by assumption)) | (refine ext_setCell ?_ (by first | (simp; done) | (simp; omega)) _))))).mono ?_; rintro e w9 ⟨code, n9, g9, h9, sl9, f9, u9, rfl, hsp, hl9, hgh, hc9⟩; have Ho9 := Lib.hid (put_law Ho.out hks hsp).1; have Hl9 := Lib.hid hl9; have Hx9 := Lib.hid ((Hx8.out.trans (show Ext _ _ from (by repeat' (first | exact Ext.refl _ | assumption | apply Ext.alloc | apply Ext.drewN | apply Ext.drew | (refine Ext.trans ?_ (by assumption)) | (refine ext_setCell ?_ (by first | (simp; done) | (simp; omega)) _))))).chg_new hc9 hS); have Hs9 := Lib.hid ((hsrc8.ext (show Ext _ _ from (by repeat' (first | exact Ext.refl _ | assumption | apply Ext.alloc | apply Ext.drewN | apply Ext.drew | (refine Ext.trans ?_ (by assumption)) | (refine ext_setCell ?_ (by first | (simp; done) | (simp; omega)) _))))).chg hc9 hsS hBS); obtain ⟨t0, t1, t2, t3, t4⟩ := (Hr8.out.ext (show Ext _ _ from (by repeat' (first | exact Ext.refl _ | assumption | apply Ext.alloc | apply Ext.drewN | apply Ext.drew | (refine Ext.trans ?_ (by assumption)) | (refine ext_setCell ?_ (by first | (simp; done) | (simp; omega)) _))))).chg hc9 hrN; have Hgh := Lib.hid hgh; clear hsp hl9 hc9 hgh))
          have hg9 : w.heap.size ≤ g9 ∧ w.heap.size ≤ h9 ∧ g9 ≠ sb ∧ h9 ≠ sb := by
            have hs8 := hsrc8.lt
            have hx8 := Hx8.out.size
            rcases Hgh.out with ⟨rfl, rfl⟩ | ⟨q, q'⟩
            · exact ⟨hg, hh, hgS, hhS⟩
            · (try simp at q q')
              refine ⟨?_, ?_, ?_, ?_⟩ <;> omega
          obtain ⟨hg9, hh9, hgS9, hhS9⟩ := hg9
          have hn4 := Ho9.out.lo
          have hnhi := Ho9.out.hi
          have hload := Ho9.out.load
          clear Hr7 Hl7 Hx7 Hl8 Hr8 Hx8 Hgh r0 r1 r2 r3 r4 q0 q1 q2 q3 q4 t0 t1 t2 t3 t4 hsrc7 hsrc8 hS hsS hrN hBS Ho hg hh hgS hhS hbl hgl hhl hbr hgr hhr
          go_wp2_with fail
          refine (sslots_any b g9 h9 n9 sl9 f9 u9 _ (by omega) (Hl9.out.ext (by repeat' (first | exact Ext.refl _ | assumption | apply Ext.alloc | apply Ext.drewN | apply Ext.drew | (refine Ext.trans ?_ (by assumption)) | (refine ext_setCell ?_ (by first | (simp; done) | (simp; omega)) _))))).mono ?_
          rintro e w10 ⟨v10, rfl, hr10, hx10⟩
          have Hl9 := Lib.hid (Hl9.out.ext (show Ext w9 w10 from (by repeat' (first | exact Ext.refl _ | assumption | apply Ext.alloc | apply Ext.drewN | apply Ext.drew | (refine Ext.trans ?_ (by assumption)) | (refine ext_setCell ?_ (by first | (simp; done) | (simp; omega)) _)))))
          have Hx9 := Lib.hid (Hx9.out.trans (show Ext w9 w10 from (by repeat' (first | exact Ext.refl _ | assumption | apply Ext.alloc | apply Ext.drewN | apply Ext.drew | (refine Ext.trans ?_ (by assumption)) | (refine ext_setCell ?_ (by first | (simp; done) | (simp; omega)) _)))))
          have Hs9 := Lib.hid (Hs9.out.ext (show Ext w9 w10 from (by repeat' (first | exact Ext.refl _ | assumption | apply Ext.alloc | apply Ext.drewN | apply Ext.drew | (refine Ext.trans ?_ (by assumption)) | (refine ext_setCell ?_ (by first | (simp; done) | (simp; omega)) _)))))
          obtain ⟨g7, o7, c7, rfl, hc70, hc71, _, _, _⟩ := hr10.at_ (show 0 < n9 by omega)
          have Hr7 := Lib.hid hr10
          clear hr10 hx10
          go_wp2_with fail
          refine (skeys_any b g9 h9 n9 sl9 f9 u9 _ (by omega) Hl9.out).mono ?_
          rintro e w8 ⟨v8, rfl, ho8, hx8⟩
          obtain ⟨a8, k8, hv8⟩ := own_shape ho8
          subst hv8
          have hr8 : Rd w8 (fun _ => True) 1 _ _ _ := Rd.of_own ho8 (fun _ _ => trivial)
          have hlen : (keysK sl9 (fun _ => true) n9).length ≤ n9 := by rw [keysK_len]; exact colK_len _ _ _
          have hnum := keysK_num Ho9.out.tab
          obtain ⟨ks, hks⟩ : ∃ ks, keysK sl9 (fun _ => true) n9 = ks := ⟨_, rfl⟩
          rw [hks] at hr8 hlen hnum
          rw [hks]
          have Hks := Lib.hid hks
          have hd5 : decide ((n9 : Int) < 4) = false := by simp; omega
          have hd6 : decide (3 * (n9 : Int) < 4 * (ks.length : Int)) = false := by simp; omega
          have hd7 : ¬ 3 * n9 < 4 * ks.length := by omega
          clear hnum hload
          have Hr8 := Lib.hid hr8
          have Hr7 := Lib.hid (Hr7.out.ext hx8)
          have Hl8 := Lib.hid (Hl9.out.ext hx8)
          have Hx8 := Lib.hid (Hx9.out.trans hx8)
          have Hs8 := Lib.hid (Hs9.out.ext hx8)
          clear ho8 hx8 hr8 hks Hl9 Hx9 Hs9
          have hc72 : c7 ≤ 9223372036854775807 := by unfold maxLen at hc71; omega
          go_wp2_with fail
          go_loopw [63] (fun o wq => ∃ j : Nat, j ≤ ks.length ∧ o = .int .i64 (j : Int) ∧ Ext w8 wq) (fun o _ => ks.length - (intOf o).toNat)
          case atStart => exact ⟨0, by omega, rfl, Ext.refl _⟩
          case round =>
            obtain ⟨j, hj, rfl, hxq⟩ := hrel
            by_cases hjn : j < ks.length
            · have hd3 : decide ((j : Int) < (ks.length : Int)) = true := by simpa using hjn
              obtain ⟨x, hx⟩ : ∃ x, ks[j]? = some x := ⟨ks[j], by simp [hjn]⟩
              obtain ⟨i0, key, hi0, hsi0, _, hkx⟩ := keysK_at (by rw [Hks.out]; exact hx)
              obtain ⟨g9, o9, c9, e9, h91, h92, _, _, hc9⟩ := (Hr8.out.ext hxq).at_ hjn
              have d0 := hc9 j (.string key) (by rw [List.getElem?_map, hx, ← hkx]; simp [enc_key])
              simp only [Value.slice.injEq, true_and] at e9
              obtain ⟨rfl, rfl⟩ := e9
              have hks := Ho9.out.keys i0 key hi0 hsi0
              obtain ⟨hD, hoff, hway⟩ := Ho9.out.tab.way ⟨hi0, hsi0⟩
              obtain ⟨hh0, hhI⟩ := homeN_lt key (show 0 < n9 by omega)
              obtain ⟨D, hDe⟩ : ∃ D, dist n9 (homeN key n9) i0 = D := ⟨_, rfl⟩
              rw [hDe] at hD hoff hway
              have j0 : (0 : Int) ≤ (j : Int) := by omega
              have j1 : (j : Int) < (ks.length : Int) := by omega
              have hc92 : k8 ≤ 9223372036854775807 := by unfold maxLen at h92; omega
              have Hrq := Lib.hid (Hr7.out.ext hxq)
              have Hxq := Lib.hid hxq
              have Hway := Lib.hid hway
              have Hsi0 := Lib.hid hsi0
              have Hoff := Lib.hid hoff
              have HhI := Lib.hid hhI
              clear hx hkx hxq hway hsi0 hDe hc9 hoff hhI
              have hne0 : ((n9 : Int) == 0) = false := by simp; omega
              go_wp2_with (go_at_call 46; refine (rhome_any _ _ _ hks).mono ?_; rintro e w9 ⟨rfl, rfl⟩; rw [HhI.out])
              go_loopw [13, 14] (fun o st wz => ∃ d : Nat, d ≤ D ∧ o = .int .i64 (off n9 (homeN key n9) d : Nat) ∧ st = .int .i64 (d : Int) ∧ wz = wr) (fun _ st _ => D - (intOf st).toNat)
              case atStart => exact ⟨0, by omega, by rw [off_zero hh0], rfl, rfl⟩
              case round =>
                obtain ⟨d, hdD, rfl, rfl, rfl⟩ := hrel
                have hpo := off_lt hh0 (show d < n9 by omega)
                obtain ⟨po, hpoe⟩ : ∃ po, off n9 (homeN key n9) d = po := ⟨_, rfl⟩
                have hd4 : decide ((d : Int) < (n9 : Int)) = true := by simp; omega
                rw [hpoe] at hpo ⊢
                obtain ⟨e0, e1⟩ := srd_slot Hrq.out hpo
                have p0 : (0 : Int) ≤ (po : Int) := by omega
                have p1 : (po : Int) < (n9 : Int) := by omega
                by_cases hlt : d < D
                · obtain ⟨k', hk', hkne⟩ := Hway.out d hlt
                  rw [hpoe] at hk'
                  rw [hk'] at e0 e1
                  simp only [Option.isSome, Option.getD] at e0 e1
                  have hbn := bytes_ne hkne
                  have hnx := nx_tmod hpo
                  have Hos := Lib.hid (off_succ hh0 (show d + 1 < n9 by omega))
                  have Hpoe := Lib.hid hpoe
                  clear hk' hkne hpoe
                  go_wp2_with fail
                  go_roundw
                  case rel => exact ⟨d + 1, by omega, by rw [Hos.out, Hpoe.out], by go_num, trivial⟩
                  case measure => simp [intOf]; omega
                · have hdD2 : d = D := by omega
                  subst hdD2
                  have hpi : po = i0 := by rw [← hpoe]; exact Hoff.out
                  subst hpi
                  rw [Hsi0.out] at e0 e1
                  simp only [Option.isSome, Option.getD] at e0 e1
                  clear hpoe
                  go_wp2_with fail
                  go_roundw
                  case rel => exact ⟨j + 1, by omega, by go_num, Hxq.out⟩
                  case measure => simp [intOf]; omega
            · have hje : j = ks.length := by omega
              subst hje
              have hd3 : decide ((ks.length : Int) < (ks.length : Int)) = false := by simp
              have hkl : k + 1 ≤ 60 := by omega
              have Hfin := Lib.hid (show SPrI w.heap.size b sb w wr from ⟨g9, h9, n9, sl9, f9, u9, Hl8.out.ext hxq, Ho9.out, hg9, hh9, hgS9, hhS9, Hs8.out.ext hxq, Hx8.out.trans hxq⟩)
              clear hxq hd5 hd6 hd7
              go_wp2_with fail
              go_roundw
              case rel => exact ⟨k + 1, hkl, by go_num, Hfin.out⟩
              case measure => simp [intOf]; omega
    · have hd : decide ((k : Int) < 60) = false := by simp; omega
      have Hx := Lib.hid hx
      clear hl ho hsrc hx
      go_wp2_with fail
      refine (awake26 _).mono ?_
      rintro e w4 ⟨rfl, hx4⟩
      have Hx4 := Lib.hid (Hx.out.trans hx4)
      clear hx4
      go_wp2_with fail
      go_ret
      exact ⟨rfl, Ext.below Hx4.out⟩
end storeProbes
end Go.Proofs.Ytkhfjedeccjnbaa
