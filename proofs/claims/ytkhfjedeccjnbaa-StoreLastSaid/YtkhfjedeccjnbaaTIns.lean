/-
  What the reference's Insert does to a table (25.2).
  Conditions: the key is not in the table; at least one slot is unused; lengths within a process's reach.
-/
import Derived.Test.YtkhfjedeccjnbaaTabIs
namespace Go.Proofs.Ytkhfjedeccjnbaa
open Go.RowKit Go.Sort
set_option maxHeartbeats 2000000

theorem info_str : (Try.prog.info? 9).map (fun i => (i.zero, i.size, i.bytes)) = some (some (.string ⟨#[]⟩), 1, 16) := by kernel_rfl
theorem und_strs : Try.prog.underlying 77 = some (.slice 9) := by kernel_rfl
theorem strs_one (ks : List ByteArray) : ∀ u ∈ ks.map Value.string, u.oneCell' = true := by
  intro u hu
  obtain ⟨k, _, rfl⟩ := List.mem_map.1 hu
  rfl
theorem enc_ins {n : Nat} {f : Nat → Int} {ks : List ByteArray} {sl : Nat → Option ByteArray} (h : Enc n f ks sl) {p : Nat} (key : ByteArray) : Enc n (upd f p (ks.length : Nat)) (ks ++ [key]) (upd sl p (some key)) := by
  intro i hi
  by_cases hip : i = p
  · subst hip
    exact .inr ⟨ks.length, key, upd_same _ _ _, upd_same _ _ _, by simp⟩
  · rw [upd_other _ _ hip, upd_other _ _ hip]
    rcases h i hi with h | ⟨j, k, e1, e2, e3⟩
    · exact .inl h
    · exact .inr ⟨j, k, e1, e2, by rw [List.getElem?_append_left (List.getElem?_eq_some_iff.1 e3).1]; exact e3⟩
theorem TableAt.setKeys {w : World} {t s n : Nat} {f : Nat → Int} {kv : Value} (k : TableAt w t s n f kv) (v : Value) : TableAt (w.setCell ⟨t, 1, none⟩ v) t s n f v := by
  obtain ⟨h1, h2, h3, h4, h5, h6⟩ := k
  exact ⟨h1, by simpa [World.setCell] using h2, fun j => by go_simp, by go_simp, by go_simp, h6.far (q := ⟨t, 1, none⟩) (Ne.symm h1) _⟩
theorem TableAt.chg {w w' : World} {S : Nat → Prop} {t s n : Nat} {f : Nat → Int} {kv : Value} (k : TableAt w t s n f kv) (c : Chg S w w') (h1 : ¬ S t) (h2 : ¬ S s) : TableAt w' t s n f kv :=
  k.keep c.size (c.block t k.2.1 h1) (c.block s k.2.2.2.2.2.1 h2)
def RInsPost (S : Nat → Prop) (t n : Nat) (sl : Nat → Option ByteArray) (L : Nat) (key : ByteArray) (w : World) (e : Ending) (w' : World) : Prop :=
  e = .returned (.tuple #[]) ∧ ∃ (p : Nat) (S' : Nat → Prop), FindAt n sl key p false ∧ TabIs w' S' t n (upd sl p (some key)) (L + 1) ∧ (∀ k, S' k → S k ∨ w.heap.size ≤ k) ∧ Chg S w w'
set_option maxRecDepth 10000 in
theorem rinsert_any (S : Nat → Prop) (t n : Nat) (sl : Nat → Option ByteArray) (L : Nat) (key : ByteArray) (w : World) (hn0 : 0 < n) (hn : n ≤ 4096) (hL : L ≤ 1000000) (hs : key.size ≤ maxLen) (hno : ∀ i, ¬ Has n sl key i) (fu : Nat) (hfu : fu < n) (hfree : sl fu = none) (h : TabIs w S t n sl L) :
    Calls Try.prog 107 #[.pointer (some ⟨t, 0, none⟩), .string key] w (RInsPost S t n sl L key w) := by
  obtain ⟨i0, hi, hz0, hz1, hz2⟩ := info_parts info_str
  obtain ⟨h0, hh⟩ := homeN_lt key hn0
  obtain ⟨s, f, kv, ks, S0, h1, hSt, hSs, hS0, h5, h6, h7, h8⟩ := h
  have hbt := h8 t hSt
  have hbs := h8 s hSs
  have H1 := Lib.hid h1
  have H5 := Lib.hid h5
  obtain ⟨hts, htl, htf, c0, c1, hsl, hsf, hsc⟩ := h1
  obtain ⟨hkl, A, cp, rfl, hk1, hk2, _⟩ := h5
  unfold maxLen at hk2
  have hlen : ks.length ≤ 1000000 := by omega
  have hne0 : ((n : Int) == 0) = false := by simp; omega
  have Hno := Lib.hid hno
  clear hno
  go_enter Try.func107, Try.ntmps107
  go_wp2_with (go_at_call 46; refine (rhome_any _ _ _ hs).mono ?_; rintro e w1 ⟨rfl, rfl⟩)
  go_loopw [4] (fun o wr => ∃ d : Nat, d < n ∧ o = .int .i64 (off n (homeN key n) d : Nat) ∧ (∀ i, i < d → ∃ k, sl (off n (homeN key n) i) = some k ∧ k ≠ key) ∧ w = wr) (fun o _ => dist n (intOf o).toNat fu)
  case atStart => exact ⟨0, hn0, by rw [off_zero h0, ← hh], fun i hi => absurd hi (by omega), rfl⟩
  case round =>
    obtain ⟨d, hd, rfl, hb, rfl⟩ := hrel
    have hp := off_lt h0 hd
    obtain ⟨p, hpe⟩ : ∃ p, off n (homeN key n) d = p := ⟨_, rfl⟩
    rw [hpe] at hp ⊢
    have d0 := hsc p hp
    have Hb := Lib.hid hb
    have Hpe := Lib.hid hpe
    clear hb hpe
    rcases h7 p hp with ⟨e1, e2⟩ | ⟨j, k, e1, e2, e3⟩
    · rw [e2] at d0
      have He1 := Lib.hid e1
      have H7 := Lib.hid h7
      have hfind : FindAt n sl key p false := ⟨d, hd, Hpe.out.symm, Hb.out, by simpa using e1⟩
      have hft := htf
      have hfs := hsf
      clear e1 e2 h7 hsc
      go_wp2_with fail
      go_region
      all_goals
        have ht1 : TableAt ((w.setCell ⟨s, p, none⟩ (.int .i64 (ks.length : Nat))).drew) t s n (upd f p (ks.length : Nat)) (.slice A ks.length cp) := (H1.out.set hp _).drew
        have hr1 : Rd ((w.setCell ⟨s, p, none⟩ (.int .i64 (ks.length : Nat))).drew) S0 1 (.slice A ks.length cp) ks.length (ks.map Value.string) := by
          have hc : Chg (· = s) w ((w.setCell ⟨s, p, none⟩ (.int .i64 (ks.length : Nat))).drew) := ((Chg.refl (· = s) w).setCell (p := ⟨s, p, none⟩) (.inl rfl) _).drew
          exact H5.out.chg hc (fun k hk => (hS0 k hk).2.2)
        have hc1 : Chg S w ((w.setCell ⟨s, p, none⟩ (.int .i64 (ks.length : Nat))).drew) := ((Chg.refl S w).setCell (p := ⟨s, p, none⟩) (.inl hSs) _).drew
        obtain ⟨w1, hw1⟩ : ∃ w1, (w.setCell ⟨s, p, none⟩ (.int .i64 (ks.length : Nat))).drew = w1 := ⟨_, rfl⟩
        rw [hw1] at ht1 hr1 hc1 ⊢
        have Ht1 := Lib.hid ht1
        have Hc1 := Lib.hid hc1
        have hz1' := hc1.size
        obtain ⟨_, htl1, htf1, y0, y1, _⟩ := ht1
        clear hw1 c0 c1 hsl hsf htl htf hft hfs d0 hc1
        go_wp2_with (first
          | (at_builtin; refine wpList_append_rd _ rfl _ _ 77 rfl w.heap.size 9 i0 _ 1 16 und_strs hi hz0 hz1 hz2 rfl (by decide) (.slice none 0 0) 0 [] rfl (World.ownsRow_nil _ _ _ _) S0 _ ks.length (ks.map Value.string) rfl hr1 (strs_one _) ?c3 ?c4 ?c5 ?_))
        case c3 => unfold maxLen; omega
        case c4 => omega
        case c5 => exact hz1'
        intro v1 w2 ha1
        have ho1 : w2.ownsRow w.heap.size 9 1 v1 ks.length (ks.map Value.string) := by simpa using ha1.own
        have hx1 : Ext w1 w2 := Ext.grown (Ext.refl _) ha1.grown (fun k hk => by simp [Value.ownBlock] at hk)
        have hb1 := fun k hk => (ho1.lt k hk).1
        have Ht2 := Lib.hid (Ht1.out.ext hx1)
        have Hc2 := Lib.hid (Hc1.out.trans (hx1.chg S))
        have hz2' := Hc2.out.size
        obtain ⟨_, htl2, htf2, z0, z1, _⟩ := Ht2.out
        obtain ⟨a1, k1, hv1⟩ := own_shape ho1
        subst hv1
        clear ha1 hx1 y0 y1 hr1 htl1 htf1
        go_wp2_with (at_builtin; refine wpList_append_own_at _ rfl _ _ 77 rfl w.heap.size 9 i0 _ 1 16 und_strs hi hz0 hz1 hz2 rfl (by decide) _ ks.length _ rfl (ho1.alloc _) ⟨w2.heap.size, 0, none⟩ 1 1 [.string key] rfl rfl ?c1 ?c2 ?c3 ?c4 ?c5 ?_)
        case c1 => exact cell_one_new _ _ _
        case c2 => intro u hu; simp at hu; subst hu; rfl
        case c3 => unfold maxLen; omega
        case c4 => omega
        case c5 => simp; omega
        intro v2 w3 ho2 hg2 _ hat
        have hx2 : Chg S w w3 := by
          refine (Hc2.out.alloc (.cells #[.string key] 9)).grown hg2 fun k hk => .inr (hb1 k hk)
        have hx3 : Chg (fun k => w.heap.size ≤ k) w2 w3 := (((Chg.refl _ w2).alloc (.cells #[.string key] 9))).grown hg2 fun k hk => .inl (hb1 k hk)
        have Ht3 := Lib.hid (Ht2.out.chg hx3 (by omega) (by have := h8 s hSs; omega))
        have Hc3 := Lib.hid hx2
        have Ho2 := Lib.hid ho2
        obtain ⟨_, htl3, htf3, z0, z1, _⟩ := Ht3.out
        obtain ⟨a2, k2, hv2⟩ := own_shape ho2
        subst hv2
        clear ho2 hg2 hat hx2 hx3 ho1
        go_wp2_with fail
        go_end0
        have hb2 := fun k hk => (Ho2.out.lt k hk)
        refine ⟨rfl, p, (fun k => S k ∨ (Value.slice a2 (ks.length + 1) k2).ownBlock = some k), hfind, ⟨s, upd f p (ks.length : Nat), .slice a2 (ks.length + 1) k2, ks ++ [key], (fun k => (Value.slice a2 (ks.length + 1) k2).ownBlock = some k), Ht3.out.setKeys _, .inl hSt, .inl hSs, fun k hk => ⟨.inr hk, ?_, ?_⟩, ?_, by simp; omega, enc_ins H7.out key, ?_⟩, ?_, Hc3.out.setCell (.inl hSt) _⟩
        · have := (hb2 k hk).1; omega
        · have := (hb2 k hk).1; omega
        · have hr : Rd w3 (fun k => (Value.slice a2 (ks.length + 1) k2).ownBlock = some k) 1 (.slice a2 (ks.length + 1) k2) (ks.length + 1) (ks.map Value.string ++ [.string key]) := Rd.of_own Ho2.out fun k hk => hk
          have hr2 := hr.chg ((Chg.refl (· = t) w3).setCell (p := ⟨t, 1, none⟩) (.inl rfl) (.slice a2 (ks.length + 1) k2)) (fun k hk e => by subst e; have := (hb2 k hk).1; omega)
          simpa using hr2
        · intro k hk
          show k < (w3.setCell _ _).heap.size
          have hz3 := Hc3.out.size
          rcases hk with hk | hk
          · have := h8 k hk; simp [World.setCell]; omega
          · have := (hb2 k hk).2; simp [World.setCell]; omega
        · intro k hk
          rcases hk with hk | hk
          · exact .inl hk
          · exact .inr (hb2 k hk).1
    · rw [e2] at d0
      have hd0 : decide ((0 : Int) ≤ (j : Int)) = true := by simp
      have hnx := nx_tmod hp
      have He1 := Lib.hid e1
      have hkk : k ≠ key := fun e => Hno.out p ⟨hp, by rw [e1, e]⟩
      clear e1 e2 e3 h7 hsc
      go_wp2_with fail
      go_roundw
      case rel =>
        have hd1 : d + 1 < n := by
          obtain ⟨q1, q2⟩ := off_dist h0 hfu
          rcases Nat.lt_or_ge d (dist n (homeN key n) fu) with hlt | hge
          · omega
          · exfalso
            rcases Nat.lt_or_ge (dist n (homeN key n) fu) d with k1 | k1
            · obtain ⟨k2, k3, _⟩ := Hb.out _ k1
              rw [q1, hfree] at k3; simp at k3
            · have k2 : d = dist n (homeN key n) fu := by omega
              have k3 := Hpe.out
              rw [k2, q1] at k3
              have k4 := He1.out
              rw [← k3, hfree] at k4; simp at k4
        refine ⟨d + 1, hd1, by rw [off_succ h0 hd1, Hpe.out], fun i hi => ?_, by trivial⟩
        rcases (show i < d ∨ i = d by omega) with hi | hi
        · exact Hb.out i hi
        · rw [hi, Hpe.out]; exact ⟨k, He1.out, hkk⟩
      case measure =>
        have hpu : p ≠ fu := fun e => by
          have k3 := He1.out
          rw [e, hfree] at k3; simp at k3
        have := dist_nx hp hfu hpu
        simpa [intOf] using this
end Go.Proofs.Ytkhfjedeccjnbaa
