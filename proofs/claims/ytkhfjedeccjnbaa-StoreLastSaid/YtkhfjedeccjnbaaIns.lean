/-
  The reference's Insert of a string into an ascending list, and Same of two lists of strings.
  Conditions: lengths within a process's reach.
-/
import Derived.Test.YtkhfjedeccjnbaaHeld
import Derived.Deep.CutBlock
namespace Go.Proofs.Ytkhfjedeccjnbaa
open Go.RowKit Go.Sort
set_option maxHeartbeats 1000000

theorem gt_iff {x : List UInt8} {s : ByteArray} : (Op.bytesLess x s.toList = false ∧ (x == s.toList) = false) ↔ s.data.toList < x := by
  rw [Go.Proofs.bytesLess_eq, ByteArray.toList_eq]
  constructor
  · rintro ⟨h1, h2⟩
    have h3 : ¬ x < s.data.toList := by simpa using h1
    have h4 : x ≠ s.data.toList := by simpa using h2
    exact lt_of_le_ne (List.not_lt.1 h3) (fun e => h4 e.symm)
  · intro h
    exact ⟨by simpa using List.le_of_lt h, by simp; rintro rfl; exact List.lt_irrefl _ h⟩
theorem Rd.take {w : World} {S : Nat → Prop} {A : Option Addr} {n c : Nat} {xs : List Value} (h : Rd w S 1 (.slice A n c) n xs) {i : Nat} (hi : i ≤ n) : Rd w S 1 (.slice A i c) i (xs.take i) := by
  obtain ⟨h1, A', c', hv, h2, h3, h4⟩ := h
  cases hv
  refine ⟨by simp; omega, A, c, rfl, by omega, h3, fun h0 => ?_⟩
  obtain ⟨g, o, e, hS, hg, hc⟩ := h4 (by omega)
  refine ⟨g, o, e, hS, hg, fun j u hu => hc j u ?_⟩
  rw [List.getElem?_take] at hu
  split at hu
  · exact hu
  · simp at hu
theorem Rd.drop {w : World} {S : Nat → Prop} {g o n c : Nat} {xs : List Value} (h : Rd w S 1 (.slice (some ⟨g, o, none⟩) n c) n xs) {i : Nat} (hi : i ≤ n) : Rd w S 1 (.slice (some ⟨g, o + i, none⟩) (n - i) (c - i)) (n - i) (xs.drop i) := by
  obtain ⟨h1, A', c', hv, h2, h3, h4⟩ := h
  cases hv
  refine ⟨by simp; omega, _, _, rfl, by omega, by omega, fun h0 => ?_⟩
  obtain ⟨g', o', e, hS, hg, hc⟩ := h4 (by omega)
  cases e
  refine ⟨g, o + i, rfl, hS, hg, fun j u hu => ?_⟩
  rw [List.getElem?_drop] at hu
  have := hc (i + j) u hu
  rwa [← Nat.add_assoc] at this
set_option maxRecDepth 100000 in
theorem ins_nil (s : ByteArray) (w : World) :
    Calls Try.prog 76 #[.slice none 0 0, .string s] w fun e w' => ∃ v', e = .returned v' ∧ w'.ownsRow w.heap.size 9 1 v' 1 [.string s] ∧ Ext w w' := by
  obtain ⟨i0, hin, hz0, hz1, hz2⟩ := info_parts info_str
  go_enter Try.func76, Try.ntmps76
  go_wp2_with fail
  go_loopw [5] (fun o wr => o = .int .i64 0 ∧ wr = w) (fun o _ => (intOf o).toNat)
  case atStart => exact ⟨rfl, rfl⟩
  case round =>
    obtain ⟨rfl, rfl⟩ := hrel
    go_wp2_with (at_builtin; refine wpList_append_rd _ rfl _ _ 77 rfl wr.heap.size 9 i0 _ 1 16 und_strs hin hz0 hz1 hz2 rfl (by decide) (.slice none 0 0) 0 [] rfl (World.ownsRow_nil _ _ _ _) (fun _ => True) _ 0 [] rfl (Rd.nil _ _ _) (by simp) ?c3 ?c4 ?c5 ?_)
    case c3 => unfold maxLen; omega
    case c4 => omega
    case c5 => exact Nat.le_refl _
    intro v1 w2 ha1
    have ho1 : w2.ownsRow wr.heap.size 9 1 v1 0 [] := by simpa using ha1.own
    have hx1 : Ext wr w2 := Ext.grown (Ext.refl _) ha1.grown (fun k hk => by simp [Value.ownBlock] at hk)
    have hb1 := fun k hk => (ho1.lt k hk).1
    obtain ⟨a1, k1, hv1⟩ := own_shape ho1
    subst hv1
    have Hx1 := Lib.hid hx1
    have hz3 := hx1.size
    clear ha1 hx1
    go_wp2_with (at_builtin; refine wpList_append_own_at _ rfl _ _ 77 rfl wr.heap.size 9 i0 _ 1 16 und_strs hin hz0 hz1 hz2 rfl (by decide) _ 0 _ rfl (ho1.alloc _) ⟨w2.heap.size, 0, none⟩ 1 1 [.string s] rfl rfl ?c1 ?c2 ?c3 ?c4 ?c5 ?_)
    case c1 => exact cell_one_new _ _ _
    case c2 => intro u hu; simp at hu; subst hu; rfl
    case c3 => unfold maxLen; omega
    case c4 => omega
    case c5 => simp; omega
    intro v2 w3 ho2 hg2 _ _
    have hx2 : Ext wr w3 := Ext.grown (Hx1.out.alloc (.cells #[.string s] 9)) hg2 hb1
    have hb2 := fun k hk => (ho2.lt k hk).1
    obtain ⟨a2, k2, hv2⟩ := own_shape ho2
    subst hv2
    have Hx2 := Lib.hid hx2
    have hz4 := hx2.size
    clear hg2 hx2 ho1
    go_wp2_with (at_builtin; refine wpList_append_rd _ rfl _ _ 77 rfl wr.heap.size 9 i0 _ 1 16 und_strs hin hz0 hz1 hz2 rfl (by decide) _ 1 _ rfl ho2 (fun _ => True) _ 0 [] rfl (Rd.nil _ _ _) (by simp) ?c3 ?c4 ?c5 ?_)
    case c3 => unfold maxLen; omega
    case c4 => omega
    try (case c5 => exact hz4)
    intro v3 w4 ha3
    have ho3 := ha3.own
    have hx3 : Ext wr w4 := Ext.grown Hx2.out ha3.grown hb2
    obtain ⟨a3, k3, hv3⟩ := own_shape ho3
    subst hv3
    have Ho3 := Lib.hid ho3
    have Hx3 := Lib.hid hx3
    clear ha3 ho3 hx3 ho2
    go_wp2_with fail
    go_ret
    exact ⟨_, rfl, by simpa using Ho3.out, Hx3.out⟩
set_option maxRecDepth 100000 in
theorem ins_any (B : Nat) (v : Value) (l : List (List UInt8)) (s : ByteArray) (w : World) (hr0 : w.ownsRow B 9 1 v l.length (l.map encStr)) (hl : l.length ≤ 4096) :
    Calls Try.prog 76 #[v, .string s] w fun e w' => ∃ i v', i ≤ l.length ∧ (∀ x, l[i - 1]? = some x → 0 < i → x ≤ s.data.toList) ∧ (∀ x, l[i]? = some x → s.data.toList < x) ∧ e = .returned v' ∧ w'.ownsRow w.heap.size 9 1 v' (l.length + 1) ((l.take i ++ s.data.toList :: l.drop i).map encStr) ∧ Ext w w' := by
  have hr : Rd w (fun _ => True) 1 v l.length (l.map encStr) := Rd.of_own hr0 fun _ _ => trivial
  have hsh : (v = .slice none 0 0 ∧ l.length = 0) ∨ ∃ g c, v = .slice (some ⟨g, 0, none⟩) l.length c := by
    rcases hr0.2 with h | ⟨g, c, _, h, _⟩
    · exact .inl h
    · exact .inr ⟨g, c, h⟩
  clear hr0
  rcases hsh with ⟨rfl, hl0⟩ | ⟨g, c, rfl⟩
  · have hl1 : l = [] := List.eq_nil_of_length_eq_zero hl0
    subst hl1
    refine (ins_nil s w).mono ?_
    rintro e w' ⟨v', rfl, ho, hx⟩
    exact ⟨0, v', Nat.le_refl _, fun x hx => by simp at hx, fun x hx => by simp at hx, rfl, by simpa [enc_key] using ho, hx⟩
  obtain ⟨A, hA⟩ : ∃ A : Option Addr, some ⟨g, 0, none⟩ = A := ⟨_, rfl⟩
  rw [hA] at hr ⊢
  have Hr := Lib.hid hr
  have HA := Lib.hid hA
  obtain ⟨_, A', c', hvv, hl2, hc2, _⟩ := hr
  simp only [Value.slice.injEq, true_and] at hvv
  obtain ⟨rfl, rfl⟩ := hvv
  subst hA
  go_enter Try.func76, Try.ntmps76
  go_upto_block 0 with fail
  go_cut [5] from 9 to 21 (fun o wx => ∃ i : Nat, i ≤ l.length ∧ o = .int .i64 (i : Int) ∧ wx = w ∧ Aside (∀ x, l[i - 1]? = some x → 0 < i → x ≤ s.data.toList) ∧ Aside (∀ x, l[i]? = some x → s.data.toList < x))
  case first =>
    go_wp2_with fail
    go_loopw [5] (fun o wr => ∃ i : Nat, i ≤ l.length ∧ o = .int .i64 (i : Int) ∧ wr = w ∧ Aside (∀ x, l[i]? = some x → s.data.toList < x)) (fun o _ => (intOf o).toNat)
    case atStart => exact ⟨l.length, by omega, rfl, rfl, fun x hx => by simp at hx⟩
    case round =>
      obtain ⟨i, hi, rfl, rfl, ha⟩ := hrel
      by_cases h0 : 0 < i
      · have hd : decide ((0 : Int) < (i : Int)) = true := by simp; omega
        obtain ⟨g, o, c', hv, hc1, hc2, hS, hg, hc⟩ := Hr.out.at_ (show i - 1 < l.length by omega)
        simp only [Value.slice.injEq, Option.some.injEq, Addr.mk.injEq, true_and, and_true] at hv
        obtain ⟨⟨rfl, rfl⟩, rfl⟩ := hv
        obtain ⟨x, hx⟩ : ∃ x, l[i - 1]? = some x := ⟨l[i - 1]'(by omega), by simp⟩
        have hcx := hc (i - 1) (encStr x) (by simp [hx])
        rw [Nat.zero_add] at hcx
        have hii : (i : Int) - 1 = ((i - 1 : Nat) : Int) := by omega
        have Hx := Lib.hid hx
        clear hc hx
        by_cases hgt : s.data.toList < x
        · obtain ⟨e1, e2⟩ := gt_iff.2 hgt
          have Hgt := Lib.hid hgt
          clear hgt
          go_wp2_with fail
          go_roundw
          case rel => exact ⟨i - 1, by omega, rfl, trivial, fun y hy => by rw [Hx.out] at hy; cases hy; exact Hgt.out⟩
          case measure => simp [intOf]; omega
        · have hle : x ≤ s.data.toList := List.not_lt.1 hgt
          have hb : (!Op.bytesLess x s.toList && !(x == s.toList)) = false := by
            rcases Bool.eq_false_or_eq_true (!Op.bytesLess x s.toList && !(x == s.toList)) with h | h
            · exfalso
              refine hgt (gt_iff.1 ?_)
              simpa using h
            · exact h
          have Hle := Lib.hid hle
          clear hgt hle
          go_wp2_with fail
          go_meet
          exact ⟨i, hi, rfl, rfl, fun y hy _ => by rw [Hx.out] at hy; cases hy; exact Hle.out, ha⟩
      · have hd : decide ((0 : Int) < (i : Int)) = false := by simp; omega
        go_wp2_with fail
        go_meet
        exact ⟨i, hi, rfl, rfl, fun _ _ h => absurd h h0, ha⟩
  case rest =>
    obtain ⟨i, hi, rfl, rfl, hlo, hhi⟩ := hcut
    obtain ⟨i0, hin, hz0, hz1, hz2⟩ := info_parts info_str
    have h1 : ∀ (m : List (List UInt8)), ∀ u ∈ m.map encStr, u.oneCell' = true := fun m u hu => by obtain ⟨y, _, rfl⟩ := List.mem_map.1 hu; rfl
    have hr1 : Rd wc (fun _ => True) 1 (.slice (some ⟨g, 0, none⟩) i c) i ((l.take i).map encStr) := by rw [List.map_take]; exact Hr.out.take hi
    have i0' : (0 : Int) ≤ (i : Int) := by omega
    have i1' : (i : Int) ≤ (l.length : Int) := by omega
    have i2' : i ≤ c := by omega
    have hlr : (l.drop i).length = l.length - i := by simp
    have hr2 : ∀ A2 c2 w2, (0 < l.length - i → A2 = some ⟨g, i, none⟩) → l.length - i ≤ c2 → c2 ≤ maxLen → Ext wc w2 → Rd w2 (fun _ => True) 1 (.slice A2 (l.length - i) c2) (l.length - i) ((l.drop i).map encStr) := by
      intro A2 c2 w2 hA hc2 hc3 hx
      refine ⟨by simp, A2, c2, rfl, hc2, hc3, fun h0 => ?_⟩
      obtain rfl := hA h0
      obtain ⟨_, A3, c3, e3, _, _, h4⟩ := Hr.out
      simp only [Value.slice.injEq, true_and] at e3
      obtain ⟨rfl, rfl⟩ := e3
      obtain ⟨g', o', e', _, hg, hcc⟩ := h4 (by omega)
      simp only [Option.some.injEq, Addr.mk.injEq] at e'
      obtain ⟨rfl, rfl, _⟩ := e'
      refine ⟨g, i, rfl, trivial, Nat.lt_of_lt_of_le hg hx.size, fun j u hu => ?_⟩
      rw [List.map_drop, List.getElem?_drop] at hu
      have := hcc (i + j) u hu
      rw [Nat.zero_add] at this
      exact (hx.cell (p := ⟨g, i + j, none⟩) hg).trans this
    have Hr2 := Lib.hid hr2
    have hcm : c ≤ maxLen := by
      obtain ⟨_, A3, c3, e3, _, h5, _⟩ := Hr.out
      simp only [Value.slice.injEq, true_and] at e3
      obtain ⟨rfl, rfl⟩ := e3
      exact h5
    have hlc : l.length ≤ c := by
      obtain ⟨_, A3, c3, e3, h5, _, _⟩ := Hr.out
      simp only [Value.slice.injEq, true_and] at e3
      obtain ⟨rfl, rfl⟩ := e3
      exact h5
    clear hr2
    have Hcm := Lib.hid hcm
    clear hcm
    by_cases hci : c = i
    · have hci := hci.symm
      subst hci
      go_wp2_with (at_builtin; refine wpList_append_rd _ rfl _ _ 77 rfl wc.heap.size 9 i0 _ 1 16 und_strs hin hz0 hz1 hz2 rfl (by decide) (.slice none 0 0) 0 [] rfl (World.ownsRow_nil _ _ _ _) _ _ i ((l.take i).map encStr) rfl hr1 (h1 _) ?c3x0 ?c4x0 ?c5x0 ?_)
      try (case c3x0 => unfold maxLen; omega)
      try (case c4x0 => omega)
      try (case c5x0 => exact Nat.le_refl _)
      intro v1 w2 ha1
      have ho1 : w2.ownsRow wc.heap.size 9 1 v1 i ((l.take i).map encStr) := by simpa using ha1.own
      have hx1 : Ext wc w2 := Ext.grown (Ext.refl _) ha1.grown (fun k hk => by simp [Value.ownBlock] at hk)
      have hb1 := fun k hk => (ho1.lt k hk).1
      obtain ⟨a1, k1, hv1⟩ := own_shape ho1
      subst hv1
      have Hx1 := Lib.hid hx1
      have hz3 := hx1.size
      clear ha1 hr1 hx1
      go_wp2_with (at_builtin; refine wpList_append_own_at _ rfl _ _ 77 rfl wc.heap.size 9 i0 _ 1 16 und_strs hin hz0 hz1 hz2 rfl (by decide) _ i _ rfl (ho1.alloc _) ⟨w2.heap.size, 0, none⟩ 1 1 [.string s] rfl rfl ?c1x1 ?c2x1 ?c3x1 ?c4x1 ?c5x1 ?_)
      try (case c1x1 => exact cell_one_new _ _ _)
      try (case c2x1 => intro u hu; simp at hu; subst hu; rfl)
      try (case c3x1 => unfold maxLen; omega)
      try (case c4x1 => omega)
      try (case c5x1 => simp; omega)
      intro v2 w3 ho2 hg2 _ _
      have hx2 : Ext wc w3 := Ext.grown (Hx1.out.alloc (.cells #[.string s] 9)) hg2 hb1
      have hb2 := fun k hk => (ho2.lt k hk).1
      obtain ⟨a2, k2, hv2⟩ := own_shape ho2
      subst hv2
      have Hx2 := Lib.hid hx2
      have hz4 := hx2.size
      clear hg2 hx2 ho1
      go_wp2_with (at_builtin; refine wpList_append_rd _ rfl _ _ 77 rfl wc.heap.size 9 i0 _ 1 16 und_strs hin hz0 hz1 hz2 rfl (by decide) _ (i + 1) _ rfl ho2 (fun _ => True) _ 0 [] rfl ?hrx2 (by simp) ?c3x2 ?c4x2 ?c5x2 ?_)
      case hrx2 => exact ⟨by simp, _, _, rfl, by omega, by unfold maxLen; omega, fun h => absurd h (by omega)⟩
      try (case c3x2 => unfold maxLen; omega)
      try (case c4x2 => omega)
      try (case c5x2 => exact hz4)
      intro v3 w4 ha3
      have el : l.length = i := by omega
      have hdr : l.drop i = [] := List.drop_eq_nil_of_le (by omega)
      have ho3 : w4.ownsRow wc.heap.size 9 1 v3 (l.length + 1) ((l.take i ++ s.data.toList :: l.drop i).map encStr) := by
        rw [el, hdr]; simpa [enc_key] using ha3.own
      clear el hdr
      have hx3 : Ext wc w4 := Ext.grown Hx2.out ha3.grown hb2
      obtain ⟨a3, k3, hv3⟩ := own_shape ho3
      subst hv3
      have Ho3 := Lib.hid ho3
      have Hx3 := Lib.hid hx3
      clear ha3 ho3 hx3 ho2
      go_wp2_with fail
      go_ret
      exact ⟨i, _, hi, hlo.out, hhi.out, rfl, by simpa [enc_key] using Ho3.out, Hx3.out⟩
    · go_wp2_with (at_builtin; refine wpList_append_rd _ rfl _ _ 77 rfl wc.heap.size 9 i0 _ 1 16 und_strs hin hz0 hz1 hz2 rfl (by decide) (.slice none 0 0) 0 [] rfl (World.ownsRow_nil _ _ _ _) _ _ i ((l.take i).map encStr) rfl hr1 (h1 _) ?c3x3 ?c4x3 ?c5x3 ?_)
      try (case c3x3 => unfold maxLen; omega)
      try (case c4x3 => omega)
      try (case c5x3 => exact Nat.le_refl _)
      intro v1 w2 ha1
      have ho1 : w2.ownsRow wc.heap.size 9 1 v1 i ((l.take i).map encStr) := by simpa using ha1.own
      have hx1 : Ext wc w2 := Ext.grown (Ext.refl _) ha1.grown (fun k hk => by simp [Value.ownBlock] at hk)
      have hb1 := fun k hk => (ho1.lt k hk).1
      obtain ⟨a1, k1, hv1⟩ := own_shape ho1
      subst hv1
      have Hx1 := Lib.hid hx1
      have hz3 := hx1.size
      clear ha1 hr1 hx1
      go_wp2_with (at_builtin; refine wpList_append_own_at _ rfl _ _ 77 rfl wc.heap.size 9 i0 _ 1 16 und_strs hin hz0 hz1 hz2 rfl (by decide) _ i _ rfl (ho1.alloc _) ⟨w2.heap.size, 0, none⟩ 1 1 [.string s] rfl rfl ?c1x4 ?c2x4 ?c3x4 ?c4x4 ?c5x4 ?_)
      try (case c1x4 => exact cell_one_new _ _ _)
      try (case c2x4 => intro u hu; simp at hu; subst hu; rfl)
      try (case c3x4 => unfold maxLen; omega)
      try (case c4x4 => omega)
      try (case c5x4 => simp; omega)
      intro v2 w3 ho2 hg2 _ _
      have hx2 : Ext wc w3 := Ext.grown (Hx1.out.alloc (.cells #[.string s] 9)) hg2 hb1
      have hb2 := fun k hk => (ho2.lt k hk).1
      obtain ⟨a2, k2, hv2⟩ := own_shape ho2
      subst hv2
      have Hx2 := Lib.hid hx2
      have hz4 := hx2.size
      clear hg2 hx2 ho1
      go_wp2_with (at_builtin; refine wpList_append_rd _ rfl _ _ 77 rfl wc.heap.size 9 i0 _ 1 16 und_strs hin hz0 hz1 hz2 rfl (by decide) _ (i + 1) _ rfl ho2 (fun _ => True) _ (l.length - i) ((l.drop i).map encStr) rfl ?hrx5 (h1 _) ?c3x5 ?c4x5 ?c5x5 ?_)
      case hrx5 => first | exact Hr2.out _ _ _ (fun h => rfl) (by omega) (Nat.le_trans (Nat.sub_le _ _) Hcm.out) Hx2.out | exact Hr2.out _ _ _ (fun h => absurd h (by omega)) (by omega) (Nat.le_trans (Nat.sub_le _ _) Hcm.out) Hx2.out
      try (case c3x5 => unfold maxLen; omega)
      try (case c4x5 => omega)
      try (case c5x5 => exact hz4)
      intro v3 w4 ha3
      have ho3 := ha3.own
      have hx3 : Ext wc w4 := Ext.grown Hx2.out ha3.grown hb2
      have e1 : i + 1 + (l.length - i) = l.length + 1 := by omega
      rw [e1] at ho3
      obtain ⟨a3, k3, hv3⟩ := own_shape ho3
      subst hv3
      have Ho3 := Lib.hid ho3
      have Hx3 := Lib.hid hx3
      clear ha3 ho3 hx3 ho2
      go_wp2_with fail
      go_ret
      exact ⟨i, _, hi, hlo.out, hhi.out, rfl, by simpa [enc_key] using Ho3.out, Hx3.out⟩
end Go.Proofs.Ytkhfjedeccjnbaa
