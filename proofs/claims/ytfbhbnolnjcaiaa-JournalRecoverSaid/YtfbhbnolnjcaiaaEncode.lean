/-
  Encode of the program (33.2) returns what the plain law says.
  Conditions: the entry's names read as a list, and all strings together are within a process's reach.
-/
import Derived.Test.YtfbhbnolnjcaiaaEntry
import Derived.Deep.RegionHeld3
namespace Go.Proofs.Ytfbhbnolnjcaiaa
open Go.RowKit Go.Sort
set_option maxHeartbeats 4000000
set_option maxRecDepth 20000

theorem item_size (s : ByteArray) : s.size ≤ (item s.data.toList).length := by
  rw [item, List.length_append]
  show s.data.toList.length ≤ _
  omega
def heads (e : Ent) : List Int := [e.cl, e.op, e.ttl, e.tick, (e.names.length : Nat)]
def headB (e : Ent) (k : Nat) : List UInt8 := ((heads e).take k).flatMap code
theorem headB_all (e : Ent) : headB e 5 = headItems e := by simp [headB, heads, headItems]
theorem headB_step {e : Ent} {k : Nat} {v : Int} (h : (heads e)[k]? = some v) : headB e (k + 1) = headB e k ++ code v := by
  unfold headB
  rw [List.take_add_one, h]
  simp
theorem heads_i64 {e : Ent} (hr : rangeB e = true) : ∀ v ∈ heads e, I64 v := by
  obtain ⟨a1, a2, a3, a4, _, a6, a7, a8, a9⟩ := range_parts hr
  have ht : I64 e.ttl := by
    rcases range_timed hr with ⟨_, b1, b2⟩ | ⟨_, b1, b2⟩ | ⟨_, _, b⟩
    · exact ⟨by omega, by omega⟩
    · exact ⟨by omega, by omega⟩
    · rw [b]; exact ⟨by omega, by omega⟩
  intro v hv
  simp only [heads, List.mem_cons, List.not_mem_nil, or_false] at hv
  rcases hv with rfl | rfl | rfl | rfl | rfl
  · exact ⟨by omega, by omega⟩
  · exact ⟨by omega, by omega⟩
  · exact ht
  · exact ⟨by omega, by omega⟩
  · exact ⟨by omega, by omega⟩
theorem headB_len {e : Ent} (hr : rangeB e = true) : ∀ k, k ≤ 5 → (headB e k).length ≤ 10 * k
  | 0, _ => by simp [headB]
  | k + 1, hk => by
    obtain ⟨v, hv⟩ : ∃ v, (heads e)[k]? = some v := ⟨(heads e)[k]'(by simp [heads]; omega), List.getElem?_eq_getElem _⟩
    have h1 := headB_len hr k (by omega)
    obtain ⟨b1, b2⟩ := heads_i64 hr v (List.mem_of_getElem? hv)
    have h2 := code_ten b1 b2
    rw [headB_step hv, List.length_append]; omega
theorem range_of {e : Ent} (h : checkE e = 0) : rangeB e = true := by
  cases hr : rangeB e with
  | true => rfl
  | false => unfold checkE at h; rw [hr] at h; simp at h
/-- The body behind i names. -/
def bodyTo (e : Ent) (i : Nat) : List UInt8 := headItems e ++ namesItems (e.names.take i)
theorem bodyTo_step {e : Ent} {i : Nat} {n : Nm} (h : e.names[i]? = some n) : bodyTo e (i + 1) = bodyTo e i ++ nameItems n := by
  unfold bodyTo
  rw [List.take_add_one, h, namesItems_append]
  simp [namesItems]
theorem bodyTo_all (e : Ent) : bodyTo e e.names.length = bodyE e := by simp [bodyTo, bodyE]
theorem bodyTo_le (e : Ent) (i : Nat) : (bodyTo e i).length ≤ (bodyE e).length := by
  have h : e.names.take i ++ e.names.drop i = e.names := List.take_append_drop _ _
  have : bodyE e = bodyTo e i ++ namesItems (e.names.drop i) := by
    unfold bodyE bodyTo
    rw [List.append_assoc, ← namesItems_append, h]
  rw [this, List.length_append]; omega
theorem enc_bad {e : Ent} (h : checkE e ≠ 0) : encE e = (checkE e, []) := by unfold encE; rw [if_pos h]
theorem enc_full {e : Ent} (h : checkE e = 0) (h2 : 4096 < (bodyE e).length) : encE e = (7, []) := by unfold encE; rw [if_neg (by simp [h]), if_pos h2]
theorem enc_ok {e : Ent} (h : checkE e = 0) (h2 : ¬ 4096 < (bodyE e).length) : encE e = (0, wrapE (bodyE e)) := by unfold encE; rw [if_neg (by simp [h]), if_neg h2]
theorem jtext_any (b s : ByteArray) (hb : b.size + s.size + 20 ≤ 140737488355328) (w : World) :
    Calls Try.prog 116 #[.string b, .string s] w fun e w' => e = .returned (.string (b ++ bs (item s.data.toList))) ∧ Ext w w' := by
  have hc := code_ten (v := (s.size : Int)) (by omega) (by omega)
  have hbs := bs_size (code (s.size : Int))
  have hfin : (b ++ bs (code (s.size : Int))) ++ s = b ++ bs (item s.data.toList) := by
    rw [item, bs_append, list_bs, ByteArray.append_assoc]; rfl
  obtain ⟨b1, hb1⟩ : ∃ b1, b ++ bs (code (s.size : Int)) = b1 := ⟨_, rfl⟩
  have hb1s : b1.size = b.size + (code (s.size : Int)).length := by rw [← hb1, ByteArray.size_append, hbs]
  have hno : ¬ 9223372036854775807 < b1.size + s.size := by omega
  have Hb1 := Lib.hid hb1
  rw [hb1] at hfin
  have Hfin := Lib.hid hfin
  clear hb1 hfin hbs
  go_enter Try.func116, Try.ntmps116
  go_wp2_with (go_at_call 115; refine (putInt_any b (s.size : Int) ⟨by omega, by omega⟩ (by omega) _).mono ?_; rintro e w1 ⟨rfl, hx⟩; rw [Hb1.out])
  go_ret
  exact ⟨by rw [← Hfin.out]; rfl, hx⟩
theorem encode_any {S : Nat → Prop} (e : Ent) (v : Value) (w : World) (hn : NmsAt w S v e.names) (hsz : (bodyE e).length + 100 ≤ 140737488355328) :
    Calls Try.prog 86 #[entV e v] w fun x w' => x = .returned (.tuple #[.string (bs (encE e).2), .int .i64 (encE e).1]) ∧ Ext w w' := by
  obtain ⟨A, c, rfl⟩ := hn.shape
  have hlm := hn.len
  unfold maxLen at hlm
  have Hn := Lib.hid hn
  have hx0 : Ext w (w.alloc (.cells #[.int .i64 e.cl, .int .i64 e.op, .int .i64 e.ttl, .int .i64 e.tick, .slice A e.names.length c] 103)) := (Ext.refl w).alloc _
  have kl : w.heap.size < (w.alloc (.cells #[.int .i64 e.cl, .int .i64 e.op, .int .i64 e.ttl, .int .i64 e.tick, .slice A e.names.length c] 103)).heap.size := by simp
  have k0 : (w.alloc (.cells #[.int .i64 e.cl, .int .i64 e.op, .int .i64 e.ttl, .int .i64 e.tick, .slice A e.names.length c] 103)).cell? ⟨w.heap.size, 0, none⟩ = some (.int .i64 e.cl) := by go_simp
  have k1 : (w.alloc (.cells #[.int .i64 e.cl, .int .i64 e.op, .int .i64 e.ttl, .int .i64 e.tick, .slice A e.names.length c] 103)).cell? ⟨w.heap.size, 1, none⟩ = some (.int .i64 e.op) := by go_simp
  have k2 : (w.alloc (.cells #[.int .i64 e.cl, .int .i64 e.op, .int .i64 e.ttl, .int .i64 e.tick, .slice A e.names.length c] 103)).cell? ⟨w.heap.size, 2, none⟩ = some (.int .i64 e.ttl) := by go_simp
  have k3 : (w.alloc (.cells #[.int .i64 e.cl, .int .i64 e.op, .int .i64 e.ttl, .int .i64 e.tick, .slice A e.names.length c] 103)).cell? ⟨w.heap.size, 3, none⟩ = some (.int .i64 e.tick) := by go_simp
  have k4 : (w.alloc (.cells #[.int .i64 e.cl, .int .i64 e.op, .int .i64 e.ttl, .int .i64 e.tick, .slice A e.names.length c] 103)).cell? ⟨w.heap.size, 4, none⟩ = some (.slice A e.names.length c) := by go_simp
  have Hx0 := Lib.hid hx0
  have Hk := Lib.hid (And.intro k0 (And.intro k1 (And.intro k2 (And.intro k3 k4))))
  clear hn k0 k1 k2 k3 k4 hx0
  obtain ⟨w0, hw0⟩ : ∃ w0, w.alloc (.cells #[.int .i64 e.cl, .int .i64 e.op, .int .i64 e.ttl, .int .i64 e.tick, .slice A e.names.length c] 103) = w0 := ⟨_, rfl⟩
  obtain ⟨eb, heb⟩ : ∃ eb, w.heap.size = eb := ⟨_, rfl⟩
  rw [hw0] at kl Hx0 Hk
  rw [heb] at kl Hk
  have Hn0 := Lib.hid (Hn.out.ext Hx0.out)
  by_cases hck : checkE e = 0
  · have hr := range_of hck
    have Hck := Lib.hid hck
    have Hr := Lib.hid hr
    obtain ⟨p0, p1, p2, p3, p4⟩ := Hk.out
    unfold entV
    clear hck hr
    go_enter Try.func86, Try.ntmps86
    go_wp2_with fail
    refine (check_any e _ _ Hn0.out).mono ?_
    rintro x w1 ⟨rfl, hx1⟩
    rw [Hck.out]
    have q0 := (hx1.cell (p := ⟨eb, 0, none⟩) kl).trans p0
    have q1 := (hx1.cell (p := ⟨eb, 1, none⟩) kl).trans p1
    have q2 := (hx1.cell (p := ⟨eb, 2, none⟩) kl).trans p2
    have q3 := (hx1.cell (p := ⟨eb, 3, none⟩) kl).trans p3
    have q4 := (hx1.cell (p := ⟨eb, 4, none⟩) kl).trans p4
    have kl1 := Nat.lt_of_lt_of_le kl hx1.size
    have Hx1 := Lib.hid (Hx0.out.trans hx1)
    have Hn1 := Lib.hid (Hn0.out.ext hx1)
    clear hx1 p0 p1 p2 p3 p4 hw0 Hk Hx0 Hn0
    go_wp2_with fail
    have hcs : ∀ k hv, (heads e)[k]? = some hv → (w1.alloc (.cells #[.int .i64 e.cl, .int .i64 e.op, .int .i64 e.ttl, .int .i64 e.tick, .int .i64 (e.names.length : Nat)] 3)).cell? ⟨w1.heap.size, k, none⟩ = some (.int .i64 hv) := fun k hv h => by
      have hk5 : k < 5 := by have := (List.getElem?_eq_some_iff.1 h).1; simpa [heads] using this
      rcases (show k = 0 ∨ k = 1 ∨ k = 2 ∨ k = 3 ∨ k = 4 by omega) with rfl | rfl | rfl | rfl | rfl <;> simp [heads] at h <;> subst h <;> go_simp
    have hxa : Ext w1 (w1.alloc (.cells #[.int .i64 e.cl, .int .i64 e.op, .int .i64 e.ttl, .int .i64 e.tick, .int .i64 (e.names.length : Nat)] 3)) := (Ext.refl w1).alloc _
    have hbl : w1.heap.size < (w1.alloc (.cells #[.int .i64 e.cl, .int .i64 e.op, .int .i64 e.ttl, .int .i64 e.tick, .int .i64 (e.names.length : Nat)] 3)).heap.size := by simp
    have Hcs := Lib.hid hcs
    have Hxa := Lib.hid hxa
    clear hcs hxa
    go_loopw [5, 28] (fun o i wr => ∃ k : Nat, k ≤ 5 ∧ i = .int .i64 (k : Int) ∧ o = .string (bs (headB e k)) ∧ Ext w wr ∧ Ext (w1.alloc (.cells #[.int .i64 e.cl, .int .i64 e.op, .int .i64 e.ttl, .int .i64 e.tick, .int .i64 (e.names.length : Nat)] 3)) wr) (fun _ i _ => 5 - (intOf i).toNat)
    case atStart => exact ⟨0, by omega, rfl, rfl, Hx1.out.trans Hxa.out, Ext.refl _⟩
    case round =>
      obtain ⟨k, hk5, rfl, rfl, hxr, hxq⟩ := hrel
      have Hxr := Lib.hid hxr
      have Hxq := Lib.hid hxq
      clear hxr hxq
      by_cases hk : k < 5
      · have hd : decide ((k : Int) < 5) = true := by simp; omega
        obtain ⟨hv, hhv⟩ : ∃ hv, (heads e)[k]? = some hv := ⟨(heads e)[k]'(by simp [heads]; omega), List.getElem?_eq_getElem _⟩
        have Hi := Lib.hid (heads_i64 Hr.out hv (List.mem_of_getElem? hhv))
        have hln := headB_len Hr.out k (by omega)
        have Hstep := Lib.hid (show bs (headB e k) ++ bs (code hv) = bs (headB e (k + 1)) by rw [headB_step hhv, bs_append])
        have hbsz := bs_size (headB e k)
        have hcell := (Hxq.out.cell (p := ⟨w1.heap.size, k, none⟩) hbl).trans (Hcs.out k hv hhv)
        have r0 : (0 : Int) ≤ (k : Int) := by omega
        have r1 : (k : Int) < 5 := by omega
        clear hhv
        go_wp2_with fail
        refine (putInt_any (bs (headB e k)) hv Hi.out (by rw [hbsz]; omega) _).mono ?_
        rintro x w3 ⟨rfl, hx3⟩
        rw [Hstep.out]
        have X3 := Lib.hid (Hxr.out.trans hx3)
        have Q3 := Lib.hid (Hxq.out.trans hx3)
        clear hx3
        go_wp2_with fail
        go_roundw
        case rel => exact ⟨k + 1, by omega, by go_num, rfl, X3.out, Q3.out⟩
        case measure => simp [intOf]; omega
      · have hke : k = 5 := by omega
        have hd : decide ((k : Int) < 5) = false := by simp; omega
        have q4 := (Hxq.out.cell (p := ⟨eb, 4, none⟩) (Nat.lt_of_lt_of_le kl1 Hxa.out.size)).trans ((Hxa.out.cell (p := ⟨eb, 4, none⟩) kl1).trans q4)
        clear Hxq
        have Hxe := Lib.hid Hxr.out
        clear Hxr
        have Hb0 := Lib.hid (show bs (headB e k) = bs (bodyTo e 0) by rw [hke, headB_all]; simp [bodyTo, namesItems])
        rw [Hb0.out]
        clear Hb0 hke
        go_wp2_with fail
        go_loopw [5, 39] (fun o i wr => ∃ k : Nat, k ≤ e.names.length ∧ i = .int .i64 (k : Int) ∧ o = .string (bs (bodyTo e k)) ∧ Ext w wr) (fun _ i _ => e.names.length - (intOf i).toNat)
        case atStart => exact ⟨0, by omega, rfl, rfl, Hxe.out⟩
        case round =>
          clear Hxe
          obtain ⟨i, hil, rfl, rfl, hxr⟩ := hrel
          have Hxr := Lib.hid hxr
          clear hxr
          by_cases hlt : i < e.names.length
          · have hd2 : decide ((i : Int) < (e.names.length : Int)) = true := by simpa using hlt
            obtain ⟨g, o, c', hv, hc1, hc2, _, hg, hcell⟩ := (Hn.out.ext Hxr.out).get (j := i) hlt
            simp only [Value.slice.injEq, true_and] at hv
            obtain ⟨rfl, rfl⟩ := hv
            obtain ⟨n, hnm⟩ : ∃ n, e.names[i]? = some n := ⟨e.names[i], by simp [hlt]⟩
            obtain ⟨c0, c1, c2⟩ := hcell _ _ hnm
            have hle := bodyTo_le e (i + 1)
            rw [bodyTo_step hnm, List.length_append, nameItems, List.length_append, List.length_append] at hle
            have sa := item_size n.a
            have su := item_size n.u
            have sk := item_size n.k
            have hstep := Lib.hid (show ((bs (bodyTo e i) ++ bs (item n.a.data.toList)) ++ bs (item n.u.data.toList)) ++ bs (item n.k.data.toList) = bs (bodyTo e (i + 1)) by rw [bodyTo_step hnm, nameItems]; simp only [bs_append, ByteArray.append_assoc])
            obtain ⟨b0, hb0⟩ : ∃ b0, bs (bodyTo e i) = b0 := ⟨_, rfl⟩
            obtain ⟨b1, hb1⟩ : ∃ b1, b0 ++ bs (item n.a.data.toList) = b1 := ⟨_, rfl⟩
            obtain ⟨b2, hb2⟩ : ∃ b2, b1 ++ bs (item n.u.data.toList) = b2 := ⟨_, rfl⟩
            obtain ⟨b3, hb3⟩ : ∃ b3, b2 ++ bs (item n.k.data.toList) = b3 := ⟨_, rfl⟩
            have z0 : b0.size = (bodyTo e i).length := by rw [← hb0, bs_size]
            have z1 : b1.size = b0.size + (item n.a.data.toList).length := by rw [← hb1, ByteArray.size_append, bs_size]
            have z2 : b2.size = b1.size + (item n.u.data.toList).length := by rw [← hb2, ByteArray.size_append, bs_size]
            rw [hb0, hb1, hb2, hb3] at hstep
            rw [hb0]
            have T1 := Lib.hid (fun w' => jtext_any b0 n.a (by omega) w')
            have T2 := Lib.hid (fun w' => jtext_any b1 n.u (by omega) w')
            have T3 := Lib.hid (fun w' => jtext_any b2 n.k (by omega) w')
            rw [hb1] at T1
            rw [hb2] at T2
            rw [hb3] at T3
            have r0 : (0 : Int) ≤ (i : Int) := by omega
            have r1 : (i : Int) < (e.names.length : Int) := by omega
            have r2 : c ≤ 9223372036854775807 := by unfold maxLen at hc2; omega
            obtain ⟨nb, hnb⟩ : ∃ nb, wr.heap.size = nb := ⟨_, rfl⟩
            have Hxa := Lib.hid (Hxr.out.alloc (.cells #[.string n.a, .string n.u, .string n.k] 68))
            have m0 : (wr.alloc (.cells #[.string n.a, .string n.u, .string n.k] 68)).cell? ⟨nb, 0, none⟩ = some (.string n.a) := by rw [← hnb]; go_simp
            have m1 : (wr.alloc (.cells #[.string n.a, .string n.u, .string n.k] 68)).cell? ⟨nb, 1, none⟩ = some (.string n.u) := by rw [← hnb]; go_simp
            have m2 : (wr.alloc (.cells #[.string n.a, .string n.u, .string n.k] 68)).cell? ⟨nb, 2, none⟩ = some (.string n.k) := by rw [← hnb]; go_simp
            have ml : nb < (wr.alloc (.cells #[.string n.a, .string n.u, .string n.k] 68)).heap.size := by rw [← hnb]; simp
            clear hcell hnm hb0 hb1 hb2 hb3 z0 z1 z2 sa su sk hle
            go_wp2_with fail
            have mm0 : ∀ k os, (later (wr.alloc (.cells #[.string n.a, .string n.u, .string n.k] 68)) k os).cell? ⟨nb, 0, none⟩ = some (.string n.a) := fun k os => (cell_grow_any _ k os nb 0 ml).trans m0
            have mm1 : ∀ k os, (later (wr.alloc (.cells #[.string n.a, .string n.u, .string n.k] 68)) k os).cell? ⟨nb, 1, none⟩ = some (.string n.u) := fun k os => (cell_grow_any _ k os nb 1 ml).trans m1
            have mm2 : ∀ k os, (later (wr.alloc (.cells #[.string n.a, .string n.u, .string n.k] 68)) k os).cell? ⟨nb, 2, none⟩ = some (.string n.k) := fun k os => (cell_grow_any _ k os nb 2 ml).trans m2
            refine wp_region_ext (by kernel_rfl) (by kernel_rfl) ?_
            repeat (quiet_step (first | (go_at_call 116; with_reducible exact ext_call (T1.out _)) | (go_at_call 116; with_reducible exact ext_call (T2.out _)) | (go_at_call 116; with_reducible exact ext_call (T3.out _))))
            refine wpQuiet_nil ?_; intro w1 hy
            have X6 := Lib.hid (Hxa.out.trans hy)
            clear hy
            go_wp2_with fail
            go_roundw
            case rel => exact ⟨i + 1, by omega, by go_num, by rw [hstep.out], X6.out⟩
            case measure => simp [intOf]; omega
          · have hie : i = e.names.length := by omega
            subst hie
            have hd2 : decide ((e.names.length : Int) < (e.names.length : Int)) = false := by simp
            rw [bodyTo_all]
            have hbs := bs_size (bodyE e)
            have Hsum := Lib.hid (sumB_int (bs (bodyE e)))
            have hsb := sumI_bd (bs (bodyE e))
            obtain ⟨bd, hbd⟩ : ∃ bd, bs (bodyE e) = bd := ⟨_, rfl⟩
            rw [hbd] at hbs hsb
            rw [hbd]
            have Hbd := Lib.hid hbd
            clear hbd
            by_cases hbig : 4096 < (bodyE e).length
            · have hd3 : decide (4096 < (bd.size : Int)) = true := by simp; omega
              have hd4 : 4096 < bd.size := by omega
              have Hfull := Lib.hid (enc_full Hck.out hbig)
              clear hbig
              go_wp2_with fail
              go_ret2
              exact ⟨by rw [Hfull.out]; rfl, Hxr.out⟩
            · have hd3 : decide (4096 < (bd.size : Int)) = false := by simp; omega
              have hd4 : ¬ 4096 < bd.size := by omega
              have Hok := Lib.hid (enc_ok Hck.out hbig)
              have hem : (⟨#[]⟩ : ByteArray).size = 0 := rfl
              have Ht := Lib.hid (fun w' => jtext_any ⟨#[]⟩ bd (by omega) w')
              have hib := code_ten (v := ((bd.data.toList.length : Nat) : Int)) (by omega) (by have : bd.data.toList.length = bd.size := rfl; omega)
              obtain ⟨b1, hb1⟩ : ∃ b1, (⟨#[]⟩ : ByteArray) ++ bs (item bd.data.toList) = b1 := ⟨_, rfl⟩
              have z1 : b1.size ≤ bd.size + 10 := by
                have : bd.data.toList.length = bd.size := rfl
                rw [← hb1, ByteArray.size_append, bs_size, item, List.length_append, hem]; omega
              have Hfin := Lib.hid (show b1 ++ bs (code (sumI bd)) = bs (wrapE (bodyE e)) by
                rw [← hb1, wrapE, bs_append, ← Hbd.out]
                have e1 : ((sumB (bodyE e) : Nat) : Int) = sumI (bs (bodyE e)) := Hsum.out
                rw [e1]
                simp; rfl)
              rw [hb1] at Ht
              have hm : bd.size ≤ maxLen := by unfold maxLen; omega
              clear hbig hb1 hib
              go_wp2_with fail
              refine (Ht.out _).mono ?_
              rintro x w4 ⟨rfl, hx4⟩
              have X4 := Lib.hid (Hxr.out.trans hx4)
              clear hx4
              go_wp2_with fail
              refine (sum_any bd _ hm).mono ?_
              rintro x w5 ⟨rfl, hx5⟩
              have X5 := Lib.hid (X4.out.trans hx5)
              clear hx5
              go_wp2_with fail
              refine (putInt_any b1 (sumI bd) ⟨by omega, by omega⟩ (by omega) _).mono ?_
              rintro x w6 ⟨rfl, hx6⟩
              rw [Hfin.out]
              have X6 := Lib.hid (X5.out.trans hx6)
              clear hx6
              go_wp2_with fail
              go_ret2
              exact ⟨by rw [Hok.out]; rfl, X6.out⟩
  · have Hbad := Lib.hid (enc_bad hck)
    have hc0 : (checkE e == 0) = false := by simpa using hck
    obtain ⟨p0, p1, p2, p3, p4⟩ := Hk.out
    unfold entV
    go_enter Try.func86, Try.ntmps86
    go_wp2_with fail
    refine (check_any e _ _ Hn0.out).mono ?_
    rintro x w1 ⟨rfl, hx1⟩
    have Hx1 := Lib.hid (Hx0.out.trans hx1)
    clear hx1 p0 p1 p2 p3 p4
    go_wp2_with fail
    go_ret2
    exact ⟨by rw [Hbad.out]; rfl, Hx1.out⟩
end Go.Proofs.Ytfbhbnolnjcaiaa
