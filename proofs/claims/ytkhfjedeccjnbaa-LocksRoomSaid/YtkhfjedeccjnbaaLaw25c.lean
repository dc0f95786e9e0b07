/-
  The walk of LocksRoom: it returns true and changes nothing that was there.
  Conditions: none.
-/
import Derived.Test.YtkhfjedeccjnbaaHeld
import Derived.Test.YtkhfjedeccjnbaaLaw25a
import Derived.Test.YtkhfjedeccjnbaaLaw26c
namespace Go.Proofs.Ytkhfjedeccjnbaa
open Go.RowKit Go.Sort
set_option maxHeartbeats 4000000

theorem colK_all (sl : Nat → Option ByteArray) : ∀ n, (colK sl (fun _ => true) n).length = cnt sl n
  | 0 => rfl
  | n + 1 => by
    have ih := colK_all sl n
    cases h : sl n with
    | none => rw [colK_none h, cnt, ih, h]; simp
    | some k => rw [colK_take h rfl, cnt, List.length_append, ih, h]; simp
def keyR (c i : Nat) : ByteArray := ⟨#[UInt8.ofNat c, UInt8.ofNat i]⟩
theorem keyR_size (c i : Nat) : (keyR c i).size ≤ maxLen := by show 2 ≤ maxLen; unfold maxLen; omega
theorem keyR_inj {a b c d : Nat} (ha : a < 256) (hb : b < 256) (hc : c < 256) (hd : d < 256) (h : keyR a b = keyR c d) : a = c ∧ b = d := by
  unfold keyR at h
  simp only [ByteArray.mk.injEq, Array.mk.injEq, List.cons.injEq] at h
  obtain ⟨h1, h2, _⟩ := h
  have e1 := congrArg UInt8.toNat h1
  have e2 := congrArg UInt8.toNat h2
  simp at e1 e2
  omega
/-- The table after the first 16 * c + i locks. -/
def RoomTab (m : Nat) (sl : Nat → Option ByteArray) (ow : Nat → Int) (u : Int) : Prop := Tab 2048 sl u ∧ u = (m : Nat) ∧ ∀ key o, Holds 2048 sl ow key o ↔ ∃ c i, i < 16 ∧ 16 * c + i < m ∧ key = keyR c i ∧ o = (c : Nat)
theorem room_start : RoomTab 0 (fun _ => none) (fun _ => 0) 0 := ⟨tab_new (by omega), rfl, fun key o => ⟨fun ⟨i, _, h, _⟩ => by simp at h, fun ⟨c, i, _, h, _⟩ => by omega⟩⟩
theorem room_step {c i : Nat} {sl : Nat → Option ByteArray} {ow : Nat → Int} {u : Int} (h : RoomTab (16 * c + i) sl ow u) (hc : c < 64) (hi : i < 16) {code : Int} {sl' : Nat → Option ByteArray} {ow' : Nat → Int} {u' : Int} (s : AcqSpec 2048 sl ow u (keyR c i) (c : Nat) code sl' ow' u') :
    code = 0 ∧ RoomTab (16 * c + (i + 1)) sl' ow' u' := by
  obtain ⟨t, hu, hH⟩ := h
  have hno : ∀ j, ¬ Has 2048 sl (keyR c i) j := fun j hj => by
    obtain ⟨c', i', h1, h2, h3, _⟩ := (hH (keyR c i) (ow j)).1 ⟨j, hj.1, hj.2, rfl⟩
    obtain ⟨rfl, rfl⟩ := keyR_inj (by omega) (by omega) (by omega) (by omega) h3
    omega
  obtain ⟨rfl, p, hf, rfl, rfl, rfl⟩ := acq_new hno ⟨by omega, by omega⟩ (by omega) s
  have hp := hf.lt
  have hpn := (Tab.miss hno hf).2
  refine ⟨rfl, t.ins hf, by omega, fun key o => ⟨?_, ?_⟩⟩
  · rintro ⟨j, hj, h1, h2⟩
    by_cases hjp : j = p
    · subst hjp
      rw [upd_same] at h1 h2
      simp only [Option.some.injEq] at h1
      exact ⟨c, i, hi, by omega, h1.symm, h2.symm⟩
    · rw [upd_other _ _ hjp] at h1 h2
      obtain ⟨c', i', a, b', d, e⟩ := (hH key o).1 ⟨j, hj, h1, h2⟩
      exact ⟨c', i', a, by omega, d, e⟩
  · rintro ⟨c', i', a, b', rfl, rfl⟩
    rcases (show 16 * c' + i' < 16 * c + i ∨ 16 * c' + i' = 16 * c + i by omega) with hlt | heq
    · obtain ⟨j, hj, h1, h2⟩ := (hH (keyR c' i') (c' : Nat)).2 ⟨c', i', a, hlt, rfl, rfl⟩
      have hjp : j ≠ p := fun e => by rw [e, hpn] at h1; simp at h1
      exact ⟨j, hj, by rw [upd_other _ _ hjp]; exact h1, by rw [upd_other _ _ hjp]; exact h2⟩
    · have e1 : c' = c := by omega
      have e2 : i' = i := by omega
      subst e1 e2
      exact ⟨p, hp, by rw [upd_same], by rw [upd_same]⟩
/-- All keys: as many as locks. -/
theorem room_keys {m : Nat} {sl : Nat → Option ByteArray} {ow : Nat → Int} {u : Int} (h : RoomTab m sl ow u) : (keysK sl (fun _ => true) 2048).length = m := by
  rw [keysK_len, colK_all]
  have := h.1.num
  have := h.2.1
  omega
/-- The keys of the last client: 16. -/
theorem room_held {c : Nat} {sl : Nat → Option ByteArray} {ow : Nat → Int} {u : Int} (hc : c < 64) (h : RoomTab (16 * (c + 1)) sl ow u) : (keysK sl (fun j => ow j == (c : Int)) 2048).length = 16 := by
  have ha : Asc ((List.range 16).map fun i => (keyR c i).data.toList) := by
    unfold Asc
    rw [List.pairwise_map]
    refine List.Pairwise.imp_of_mem ?_ List.pairwise_lt_range
    intro x y hx hy hxy
    rw [List.mem_range] at hx hy
    show [UInt8.ofNat c, UInt8.ofNat x] < [UInt8.ofNat c, UInt8.ofNat y]
    rw [List.cons_lt_cons_iff]
    refine .inr ⟨rfl, ?_⟩
    rw [List.cons_lt_cons_iff]
    refine .inl ?_
    rw [UInt8.lt_iff_toNat_lt]
    simp; omega
  have e : keysK sl (fun j => ow j == (c : Int)) 2048 = (List.range 16).map fun i => (keyR c i).data.toList := by
    refine asc_unique (keysK_asc h.1.dis) ha fun x => ?_
    rw [mem_keysK, List.mem_map]
    constructor
    · rintro ⟨j, k, hj, h1, h2, rfl⟩
      obtain ⟨c', i', a, b', rfl, d⟩ := (h.2.2 k (ow j)).1 ⟨j, hj, h1, rfl⟩
      have h3 : ow j = (c : Int) := by simpa using h2
      have e1 : c' = c := by omega
      subst e1
      exact ⟨i', by simpa using a, rfl⟩
    · rintro ⟨i, hi, rfl⟩
      rw [List.mem_range] at hi
      obtain ⟨j, hj, h1, h2⟩ := (h.2.2 (keyR c i) (c : Nat)).2 ⟨c, i, hi, by omega, rfl, rfl⟩
      exact ⟨j, _, hj, h1, by simp [h2], rfl⟩
  rw [e]; simp
theorem keyR_conv (c i : Nat) (hc : c < 64) (hi : i < 16) (w : World) : (convert 81 9 (.slice (some ⟨w.heap.size, 0, none⟩) 2 2)).run Try.prog (w.alloc (.cells #[.int .u8 (c : Int), .int .u8 (i : Int)] 5)) = .ok (.string (keyR c i)) (w.alloc (.cells #[.int .u8 (c : Int), .int .u8 (i : Int)] 5)) := by
  refine run_convert_bytes_back _ 81 9 5 ⟨w.heap.size, 0, none⟩ 2 [UInt8.ofNat c, UInt8.ofNat i] und_bytes und_byte und_str fun j hj => ?_
  have h1 : (w.alloc (.cells #[.int .u8 (c : Int), .int .u8 (i : Int)] 5)).heap[w.heap.size]? = some (.cells #[.int .u8 (c : Int), .int .u8 (i : Int)] 5) := heap_alloc_new w _
  rw [add_head]
  simp only [World.cell?, h1]
  rcases (show j = 0 ∨ j = 1 by simp at hj; omega) with rfl | rfl
  · have e : (UInt8.ofNat c).toNat = c := by simp; omega
    show some (Value.int .u8 (c : Int)) = some (.int .u8 ((UInt8.ofNat c).toNat : Int))
    rw [e]
  · have e : (UInt8.ofNat i).toNat = i := by simp; omega
    show some (Value.int .u8 (i : Int)) = some (.int .u8 ((UInt8.ofNat i).toNat : Int))
    rw [e]
set_option maxRecDepth 100000
namespace locksRoom
theorem walk (a0 : Int) (w : World) (_ : I64 a0) :
    Calls Try.prog 20 #[.int .i64 a0] w fun e w' => e = .returned (.bool true) ∧ Below w.heap.size w w' := by
  have hpb := pickI_bd a0 64 (by omega)
  obtain ⟨q, hq⟩ : ∃ q : Nat, pickI a0 64 = (q : Int) := ⟨(pickI a0 64).toNat, by omega⟩
  have hq1 : q < 64 := by omega
  clear hpb
  go_enter Try.func20, Try.ntmps20
  go_wp2_with fail
  refine (new_any 2048 _).mono ?_
  rintro e w1 (⟨hp, _⟩ | ⟨_, b, g, h, rfl, hb, hg, hh, hl, hx⟩)
  · exact absurd hp (by decide)
  have hl1 : LocksAt w1 b g h 2048 (fun _ => none) (fun _ => 0) 0 := hl
  have Hl1 := Lib.hid hl1
  have Hx1 := Lib.hid hx
  clear hl hl1 hx
  go_wp2_with (go_at_call 29; refine (pick_any _ _ (by omega) (by omega) _).mono ?_; rintro e w' ⟨rfl, rfl⟩; rw [hq])
  go_loopw [6] (fun o wr => ∃ c : Nat, c ≤ q + 1 ∧ o = .int .i64 (c : Int) ∧ ∃ sl ow u, LocksAt wr b g h 2048 sl ow u ∧ RoomTab (16 * c) sl ow u ∧ Ext w wr) (fun o _ => q + 1 - (intOf o).toNat)
  case atStart => exact ⟨0, by omega, rfl, _, _, _, Hl1.out, room_start, Hx1.out⟩
  case round =>
    clear Hl1 Hx1
    obtain ⟨c, hcq, rfl, sl, ow, u, hl, ht, hx⟩ := hrel
    have hS : ∀ i, (i = b ∨ i = g ∨ i = h) → w.heap.size ≤ i := by rintro i (rfl | rfl | rfl) <;> assumption
    have Hl := Lib.hid hl
    have Ht := Lib.hid ht
    have Hx := Lib.hid hx
    clear hl ht hx
    by_cases hc : c < q + 1
    · have hd : decide ((c : Int) < 1 + (q : Int)) = true := by simp; omega
      go_wp2_with fail
      go_loopw [7] (fun o wr => ∃ i : Nat, i ≤ 16 ∧ o = .int .i64 (i : Int) ∧ ∃ sl ow u, LocksAt wr b g h 2048 sl ow u ∧ RoomTab (16 * c + i) sl ow u ∧ Ext w wr) (fun o _ => 16 - (intOf o).toNat)
      case atStart => exact ⟨0, by omega, rfl, _, _, _, Hl.out, Ht.out, Hx.out⟩
      case round =>
        clear Hl Ht Hx
        obtain ⟨i, hi16, rfl, sl, ow, u, hl, ht, hx⟩ := hrel
        have Hl := Lib.hid hl
        have Ht := Lib.hid ht
        have Hx := Lib.hid hx
        clear hl ht hx
        by_cases hi : i < 16
        · have hd2 : decide ((i : Int) < 16) = true := by simp; omega
          have hkc := keyR_conv c i (by omega) hi wr
          have hks := keyR_size c i
          have hcc : IntKind.u8.wrap (c : Int) = (c : Int) := IntWalk.u8_in _ (by omega)
          have hii : IntKind.u8.wrap (i : Int) = (i : Int) := IntWalk.u8_in _ (by omega)
          go_wp2_with fail
          clear hkc hcc hii
          have hxa : Ext wr (wr.alloc (.cells #[.int .u8 (c : Int), .int .u8 (i : Int)] 5)) := (Ext.refl wr).alloc _
          have hu : u = ((16 * c + i : Nat) : Int) := Ht.out.2.1
          obtain ⟨fu, hfu, hfree⟩ := Ht.out.1.free (by omega)
          refine (acquire_any b g h 2048 sl ow u (keyR c i) (c : Int) _ (by omega) (by omega) hks (Hl.out.ext hxa) (by omega) (by omega) fu hfu hfree).mono ?_
          rintro e w2 ⟨code, sl1, ow1, u1, rfl, hsp, hl1, hc1⟩
          obtain ⟨rfl, ht1⟩ := room_step Ht.out (by omega) hi hsp
          have Hl1 := Lib.hid hl1
          have Ht1 := Lib.hid ht1
          have Hx1 := Lib.hid ((Hx.out.trans hxa).chg_new hc1 hS)
          clear hxa hu hfree hsp hl1 ht1 hc1
          go_wp2_with fail
          go_roundw
          case rel => exact ⟨i + 1, by omega, by go_num, sl1, ow1, u1, Hl1.out, Ht1.out, Hx1.out⟩
          case measure => simp [intOf]; omega
        · have hd2 : decide ((i : Int) < 16) = false := by simp; omega
          have hie : i = 16 := by omega
          subst hie
          go_wp2_with fail
          go_roundw
          case rel => exact ⟨c + 1, by omega, by go_num, sl, ow, u, Hl.out, Ht.out, Hx.out⟩
          case measure => simp [intOf]; omega
    · have hd : decide ((c : Int) < 1 + (q : Int)) = false := by simp; omega
      have hce : c = q + 1 := by omega
      have ht2 : RoomTab (16 * (q + 1)) sl ow u := by rw [← hce]; exact Ht.out
      have hk1 := room_keys ht2
      have hk2 := room_held hq1 ht2
      have hq2 : (1 + (q : Int)) - 1 = (q : Int) := by omega
      have hq3 : (16 * (q + 1) : Nat) = (1 + (q : Int)) * 16 := by omega
      have Hk1 := Lib.hid hk1
      have Hk2 := Lib.hid hk2
      clear hce ht2 hk1 hk2
      go_wp2_with fail
      refine (awake25 _).mono ?_
      rintro e w2 ⟨rfl, hx2⟩
      have Hl2 := Lib.hid (Hl.out.ext hx2)
      have Hx2 := Lib.hid (Hx.out.trans hx2)
      clear hx2
      go_wp2_with fail
      refine (lkeys_any b g h 2048 sl ow u _ (by omega) Hl2.out).mono ?_
      rintro e w3 ⟨v3, rfl, ho3, hx3⟩
      obtain ⟨a3, k3, hv3⟩ := own_shape ho3
      subst hv3
      have Hl3 := Lib.hid (Hl2.out.ext hx3)
      have Hx3 := Lib.hid (Hx2.out.trans hx3)
      rw [Hk1.out]
      clear hx3 ho3
      go_wp2_with fail
      refine (held_any b g h 2048 sl ow u _ _ (by omega) Hl3.out).mono ?_
      rintro e w4 ⟨v4, rfl, ho4, hx4⟩
      obtain ⟨a4, k4, hv4⟩ := own_shape ho4
      subst hv4
      have Hx4 := Lib.hid (Hx3.out.trans hx4)
      have hk2 := Hk2.out
      clear hx4 ho4
      go_wp2_with fail
      go_ret
      exact ⟨rfl, Ext.below Hx4.out⟩
end locksRoom
end Go.Proofs.Ytkhfjedeccjnbaa
