/-
  The reference's sorted keys (25.4, 26.4), the keys of one client (25.4), and its slots as they are shown (25.4, 26.4).
  Conditions: the table is whole in memory; at most 4096 slots or locks.
-/
import Derived.Test.YtkhfjedeccjnbaaIns
import Derived.Test.YtkhfjedeccjnbaaRLk
namespace Go.Proofs.Ytkhfjedeccjnbaa
open Go.RowKit Go.Sort
set_option maxHeartbeats 2000000
set_option maxRecDepth 100000

theorem data_inj {a b : ByteArray} (h : a.data.toList = b.data.toList) : a = b := by
  cases a; cases b; simpa using h
theorem ins_asc {l : List (List UInt8)} {s : List UInt8} {i : Nat} (h : Asc l) (hs : s ∉ l) (hi : i ≤ l.length) (hlo : ∀ x, l[i - 1]? = some x → 0 < i → x ≤ s) (hhi : ∀ x, l[i]? = some x → s < x) : Asc (l.take i ++ s :: l.drop i) :=
  asc_insert h hs hi (fun hp => hlo _ (List.getElem?_eq_getElem (by omega)) hp) (fun hp => hhi _ (List.getElem?_eq_getElem hp))
theorem ins_len {l : List (List UInt8)} {s : List UInt8} {i : Nat} (hi : i ≤ l.length) : (l.take i ++ s :: l.drop i).length = l.length + 1 := by simp; omega
/-- The sorted keys of a table, whatever list they are. -/
def SortedPost (n : Nat) (sl : Nat → Option ByteArray) (w : World) (e : Ending) (w' : World) : Prop :=
  ∃ hs : List (List UInt8), Asc hs ∧ (∀ x, x ∈ hs ↔ ∃ j k, j < n ∧ sl j = some k ∧ k.data.toList = x) ∧ KeysPost hs w e w'
theorem rsorted_any (S : Nat → Prop) (t n : Nat) (sl : Nat → Option ByteArray) (L : Nat) (u : Int) (w : World) (hn : n ≤ 2048) (tb : Tab n sl u) (h : TabIs w S t n sl L) :
    Calls Try.prog 88 #[.pointer (some ⟨t, 0, none⟩)] w (SortedPost n sl w) := by
  obtain ⟨s, f, kv, ks, S0, h1, _, _, _, h5, h6, h7, _⟩ := h
  obtain ⟨hts, htl, htf, c0, c1, hsl, hsf, hsc⟩ := h1
  have H5 := Lib.hid h5
  have H7 := Lib.hid h7
  have Hsc := Lib.hid hsc
  obtain ⟨_, A, cp, rfl, hk1, hk2, _⟩ := h5
  unfold maxLen at hk2
  clear h7 hsc
  go_enter Try.func88, Try.ntmps88
  go_wp2_with fail
  go_loopw [11, 3] (fun o v wr => ∃ (i : Nat) (hs : List (List UInt8)), i ≤ n ∧ o = .int .i64 (i : Int) ∧ hs.length ≤ i ∧ Asc hs ∧ (∀ x, x ∈ hs ↔ ∃ j k, j < i ∧ sl j = some k ∧ k.data.toList = x) ∧ wr.ownsRow w.heap.size 9 1 v hs.length (hs.map encStr) ∧ Ext w wr) (fun o _ _ => n - (intOf o).toNat)
  case atStart => exact ⟨0, [], by omega, rfl, by simp, List.Pairwise.nil, fun x => by simp, World.ownsRow_nil _ _ _ _, Ext.refl _⟩
  case round =>
    obtain ⟨i, hs, hi, rfl, hl, ha, hm, ho, hx⟩ := hrel
    have Ha := Lib.hid ha
    have Hm := Lib.hid hm
    have Ho := Lib.hid ho
    have Hx := Lib.hid hx
    have d1 := (hx.cell (p := ⟨t, 1, none⟩) htl).trans c1
    by_cases hin : i < n
    · have hd : decide ((i : Int) < (n : Int)) = true := by simpa using hin
      have d0 := (hx.cell (p := ⟨s, i, none⟩) hsl).trans (Hsc.out i hin)
      have i0 : (0 : Int) ≤ (i : Int) := by omega
      have i1 : (i : Int) < (n : Int) := by omega
      rcases H7.out i hin with ⟨e1, e2⟩ | ⟨j, k, e1, e2, e3⟩
      · rw [e2] at d0
        have He1 := Lib.hid e1
        clear e1 e2 hx ho ha hm c0 c1
        go_wp2_with fail
        go_roundw
        case rel =>
          refine ⟨i + 1, hs, by omega, by go_num, by omega, Ha.out, fun x => (Hm.out x).trans ⟨?_, ?_⟩, Ho.out, Hx.out⟩
          · rintro ⟨j, k, h1, h2⟩; exact ⟨j, k, by omega, h2⟩
          · rintro ⟨j, k, h1, h2, h3⟩
            rcases (show j < i ∨ j = i by omega) with h | rfl
            · exact ⟨j, k, h, h2, h3⟩
            · rw [He1.out] at h2; simp at h2
        case measure => simp [intOf]; omega
      · rw [e2] at d0
        have hjl : j < ks.length := (List.getElem?_eq_some_iff.1 e3).1
        obtain ⟨g, o, c, ev, hc1, hc2, _, _, hrd⟩ := (H5.out.ext hx).at_ hjl
        simp only [Value.slice.injEq, true_and] at ev
        obtain ⟨rfl, rfl⟩ := ev
        have d2 := hrd j _ (map_string_at e3)
        have j0 : (0 : Int) ≤ (j : Int) := by omega
        have j1 : (j : Int) < (ks.length : Int) := by omega
        have hd2 : decide ((0 : Int) ≤ (j : Int)) = true := by simp
        have hno : k.data.toList ∉ hs := fun hk => by
          obtain ⟨j', k', h1, h2, h3⟩ := (hm _).1 hk
          have := data_inj h3
          subst this
          have := tb.dis j' i _ (by omega) hin h2 e1
          omega
        have He1 := Lib.hid e1
        have Hno := Lib.hid hno
        clear e1 e2 e3 hx ho ha hm hrd hno c0 c1
        go_wp2_with fail
        refine (ins_any w.heap.size _ hs k wr Ho.out (by omega)).mono ?_
        rintro e w1 ⟨i', v', hi', hlo, hhi, rfl, ho1, hx1⟩
        obtain ⟨a1, k1, hv1⟩ := own_shape ho1
        subst hv1
        have ha1 := ins_asc Ha.out Hno.out hi' hlo hhi
        have Ho1 := Lib.hid (own_base ho1 Hx.out.size)
        have Hlo := Lib.hid hlo
        have Hhi := Lib.hid hhi
        have Ha1 := Lib.hid ha1
        have Hx1 := Lib.hid (Hx.out.trans hx1)
        clear ho1 hx1 hlo hhi ha1
        go_wp2_with fail
        go_roundw
        case rel =>
          refine ⟨i + 1, _, by omega, by go_num, by rw [ins_len hi']; omega, Ha1.out, fun x => (mem_insert i').trans ⟨?_, ?_⟩, by rw [ins_len hi']; exact Ho1.out, Hx1.out⟩
          · rintro (rfl | hxm)
            · exact ⟨i, k, by omega, He1.out, rfl⟩
            · obtain ⟨j', k', h1, h2⟩ := (Hm.out x).1 hxm
              exact ⟨j', k', by omega, h2⟩
          · rintro ⟨j', k', h1, h2, h3⟩
            rcases (show j' < i ∨ j' = i by omega) with h | rfl
            · exact .inr ((Hm.out x).2 ⟨j', k', h, h2, h3⟩)
            · rw [He1.out] at h2; simp at h2; subst h2; exact .inl h3.symm
        case measure => simp [intOf]; omega
    · have hd : decide ((i : Int) < (n : Int)) = false := by simp; omega
      have hie : i = n := by omega
      subst hie
      clear hx ho ha hm c0 c1
      go_wp2_with fail
      go_ret
      exact ⟨hs, Ha.out, Hm.out, _, rfl, Ho.out, Hx.out⟩
/-- The keys of one client, whatever list they are. -/
def RHeldPost (os : List Rc) (c : Int) (w : World) (e : Ending) (w' : World) : Prop :=
  ∃ hs : List (List UInt8), Asc hs ∧ (∀ x, x ∈ hs ↔ ∃ r ∈ os, r.ow = c ∧ r.nm.data.toList = x) ∧ KeysPost hs w e w'
theorem rheld_any (S : Nat → Prop) (b n : Nat) (sl : Nat → Option ByteArray) (os : List Rc) (L : Nat) (c : Int) (w : World) (hn : os.length ≤ 2048) (hd0 : (os.map (·.nm)).Nodup) (h : RLkIs w S b n sl os L) :
    Calls Try.prog 112 #[.pointer (some ⟨b, 0, none⟩), .int .i64 c] w (RHeldPost os c w) := by
  obtain ⟨t, rv, St, Sr, c0, c1, _, hSb, _, hr, _, _, hlow⟩ := h
  have hbl := hlow b hSb
  have Hr := Lib.hid hr
  have Hd0 := Lib.hid hd0
  obtain ⟨_, A, cp, rfl, hk1, hk2, _⟩ := hr
  unfold maxLen at hk2
  clear hd0
  go_enter Try.func112, Try.ntmps112
  go_wp2_with fail
  go_loopw [13, 5] (fun o v wr => ∃ (i : Nat) (hs : List (List UInt8)), i ≤ os.length ∧ o = .int .i64 (i : Int) ∧ hs.length ≤ i ∧ Asc hs ∧ (∀ x, x ∈ hs ↔ ∃ j r, j < i ∧ os[j]? = some r ∧ r.ow = c ∧ r.nm.data.toList = x) ∧ wr.ownsRow w.heap.size 9 1 v hs.length (hs.map encStr) ∧ Ext w wr) (fun o _ _ => os.length - (intOf o).toNat)
  case atStart => exact ⟨0, [], by omega, rfl, by simp, List.Pairwise.nil, fun x => by simp, World.ownsRow_nil _ _ _ _, Ext.refl _⟩
  case round =>
    obtain ⟨i, hs, hi, rfl, hl, ha, hm, ho, hx⟩ := hrel
    have Ha := Lib.hid ha
    have Hm := Lib.hid hm
    have Ho := Lib.hid ho
    have Hx := Lib.hid hx
    by_cases hin : i < os.length
    · have hd : decide ((i : Int) < (os.length : Int)) = true := by simpa using hin
      obtain ⟨g, o, cc, ev, hc1, hc2, _, _, hrd⟩ := (Hr.out.ext hx).at_ hin
      simp only [Value.slice.injEq, true_and] at ev
      obtain ⟨rfl, rfl⟩ := ev
      obtain ⟨r, hrr⟩ : ∃ r, os.getD i default = r := ⟨_, rfl⟩
      have hri : os[i]? = some r := by rw [← hrr]; simp [List.getD_eq_getElem?_getD, hin]
      have m0 := hrd (i * 4 + 0) _ (by rw [flatR_at _ hin 0 (by omega)]; rfl)
      have m1 := hrd (i * 4 + 1) _ (by rw [flatR_at _ hin 1 (by omega)]; rfl)
      have m2 := hrd (i * 4 + 2) _ (by rw [flatR_at _ hin 2 (by omega)]; rfl)
      have m3 := hrd (i * 4 + 3) _ (by rw [flatR_at _ hin 3 (by omega)]; rfl)
      rw [hrr] at m0 m1 m2 m3
      simp only [Nat.add_zero] at m0
      simp only [← Nat.add_assoc] at m1 m2 m3
      have i0 : (0 : Int) ≤ (i : Int) := by omega
      have i1 : (i : Int) < (os.length : Int) := by omega
      have Hri := Lib.hid hri
      have hz := hx.size
      clear hrr hri hrd hx ho ha hm
      by_cases hc : r.ow = c
      · have hce : (r.ow == c) = true := by simpa using hc
        have hno : r.nm.data.toList ∉ hs := fun hk => by
          obtain ⟨j', r', h1, h2, _, h3⟩ := (Hm.out _).1 hk
          have e1 := data_inj h3
          have hjl : j' < os.length := by omega
          have := List.pairwise_iff_getElem.1 Hd0.out j' i (by simpa using hjl) (by simpa using hin) h1
          rw [List.getElem?_eq_getElem hjl] at h2
          have h4 := Hri.out
          rw [List.getElem?_eq_getElem hin] at h4
          simp only [Option.some.injEq] at h2 h4
          apply this
          simp only [List.getElem_map]
          rw [h2, h4, e1]
        have Hc := Lib.hid hc
        have Hno := Lib.hid hno
        clear hc hno
        have hal := Ho.out.alloc (.cells #[.int .i64 r.st, .int .i64 r.ow, .string r.nm, .int .i64 r.dl] 30)
        have Hal := Lib.hid hal
        clear hal
        go_wp2_with fail
        refine (ins_any w.heap.size _ hs r.nm _ Hal.out (by omega)).mono ?_
        rintro e w1 ⟨i', v', hi', hlo, hhi, rfl, ho1, hx1⟩
        obtain ⟨a1, k1, hv1⟩ := own_shape ho1
        subst hv1
        have ha1 := ins_asc Ha.out Hno.out hi' hlo hhi
        have Ho1 := Lib.hid (own_base ho1 (base' := w.heap.size) (by simp; omega))
        have Ha1 := Lib.hid ha1
        have Hx1 := Lib.hid ((Hx.out.alloc _).trans hx1)
        clear ho1 hx1 hlo hhi ha1
        go_wp2_with fail
        go_roundw
        case rel =>
          refine ⟨i + 1, _, by omega, by go_num, by rw [ins_len hi']; omega, Ha1.out, fun x => (mem_insert i').trans ⟨?_, ?_⟩, by rw [ins_len hi']; exact Ho1.out, Hx1.out⟩
          · rintro (rfl | hxm)
            · exact ⟨i, r, by omega, Hri.out, Hc.out, rfl⟩
            · obtain ⟨j', r', h1, h2⟩ := (Hm.out x).1 hxm
              exact ⟨j', r', by omega, h2⟩
          · rintro ⟨j', r', h1, h2, h3, h4⟩
            rcases (show j' < i ∨ j' = i by omega) with h | rfl
            · exact .inr ((Hm.out x).2 ⟨j', r', h, h2, h3, h4⟩)
            · rw [Hri.out] at h2; simp at h2; subst h2; exact .inl h4.symm
        case measure => simp [intOf]; omega
      · have hce : (r.ow == c) = false := by simpa using hc
        have Hc := Lib.hid hc
        clear hc
        go_wp2_with fail
        go_roundw
        case rel =>
          refine ⟨i + 1, hs, by omega, by go_num, by omega, Ha.out, fun x => (Hm.out x).trans ⟨?_, ?_⟩, Ho.out.alloc _, Hx.out.alloc _⟩
          · rintro ⟨j, k, h1, h2⟩; exact ⟨j, k, by omega, h2⟩
          · rintro ⟨j, k, h1, h2, h3⟩
            rcases (show j < i ∨ j = i by omega) with h | rfl
            · exact ⟨j, k, h, h2, h3⟩
            · rw [Hri.out] at h2; simp at h2; subst h2; exact absurd h3.1 Hc.out
        case measure => simp [intOf]; omega
    · have hd : decide ((i : Int) < (os.length : Int)) = false := by simp; omega
      have hie : i = os.length := by omega
      subst hie
      clear hx ho ha hm
      go_wp2_with fail
      go_ret
      refine ⟨hs, Ha.out, fun x => (Hm.out x).trans ⟨?_, ?_⟩, _, rfl, Ho.out, Hx.out⟩
      · rintro ⟨j, r, _, h2, h3⟩
        exact ⟨r, List.mem_of_getElem? h2, h3⟩
      · rintro ⟨r, hr, h3⟩
        obtain ⟨j, hj, rfl⟩ := List.getElem_of_mem hr
        exact ⟨j, _, hj, List.getElem?_eq_getElem hj, h3⟩
end Go.Proofs.Ytkhfjedeccjnbaa
