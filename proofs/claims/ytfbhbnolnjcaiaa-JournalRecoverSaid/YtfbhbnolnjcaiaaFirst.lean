/-
  journal.first (33.3) finds the entry at the beginning of a journal as the plain law says.
  Conditions: the journal is within a process's reach.
-/
import Derived.Test.YtfbhbnolnjcaiaaEntryR
namespace Go.Proofs.Ytfbhbnolnjcaiaa
open Go.RowKit Go.Sort
set_option maxHeartbeats 8000000
set_option maxRecDepth 20000

theorem textR_size {s : List UInt8} {t : Nat} {b : Bool} (h : t ≤ s.length) : (textR s t b).1.length + t ≤ (textR s t b).2.1 := by
  have h1 := numR_le (b := b) h
  unfold textR
  simp only
  split
  · simpa using h1.2
  · rename_i hn
    simp only [not_or] at hn
    simp only [List.length_take, List.length_drop]
    omega
def nmSize (n : Nm) : Nat := n.a.size + n.u.size + n.k.size
def nmsSize : List Nm → Nat
  | [] => 0
  | n :: r => nmSize n + nmsSize r
theorem nameR_size {s : List UInt8} {t : Nat} {b : Bool} (h : t ≤ s.length) : nmSize (nameR s t b).1 + t ≤ (nameR s t b).2.1 := by
  unfold nameR nmSize
  simp only [bs_size]
  have h1 := textR_le (b := b) h
  have h2 := textR_le (s := s) (b := (textR s t b).2.2) h1.1
  have k1 := textR_size (b := b) h
  have k2 := textR_size (s := s) (b := (textR s t b).2.2) h1.1
  have k3 := textR_size (s := s) (b := (textR s (textR s t b).2.1 (textR s t b).2.2).2.2) h2.1
  omega
theorem namesR_size (s : List UInt8) : ∀ (n t : Nat) (b : Bool), t ≤ s.length → nmsSize (namesR s n t b).1 + t ≤ (namesR s n t b).2.1 ∧ (namesR s n t b).2.1 ≤ s.length
  | 0, t, b, h => by simp [namesR, nmsSize, h]
  | n + 1, t, b, h => by
    have h1 := nameR_le (b := b) h
    have h2 := nameR_size (b := b) h
    have h3 := namesR_size s n (nameR s t b).2.1 (nameR s t b).2.2 h1.1
    rw [namesR]
    simp only [nmsSize]
    omega
theorem item_le (s : ByteArray) (hs : s.size ≤ 9223372036854775807) : (item s.data.toList).length ≤ s.size + 10 := by
  have hl : s.data.toList.length = s.size := rfl
  have := code_ten (v := ((s.data.toList.length : Nat) : Int)) (by omega) (by omega)
  rw [item, List.length_append]; omega
theorem namesItems_le : ∀ l : List Nm, nmsSize l ≤ 9223372036854775807 → (namesItems l).length ≤ nmsSize l + 30 * l.length
  | [], _ => by simp [namesItems, nmsSize]
  | n :: r, h => by
    simp only [nmsSize, nmSize] at h
    have h1 := namesItems_le r (by omega)
    have a := item_le n.a (by omega)
    have u := item_le n.u (by omega)
    have k := item_le n.k (by omega)
    simp only [namesItems, nameItems, nmsSize, nmSize, List.length_append, List.length_cons]
    omega
theorem body_le {e : Ent} (h1 : I64 e.cl) (h2 : I64 e.op) (h3 : I64 e.ttl) (h4 : I64 e.tick) (hl : e.names.length ≤ 17) (hs : nmsSize e.names ≤ 9223372036854775807) : (bodyE e).length ≤ nmsSize e.names + 560 := by
  have c1 := code_ten h1.1 h1.2
  have c2 := code_ten h2.1 h2.2
  have c3 := code_ten h3.1 h3.2
  have c4 := code_ten h4.1 h4.2
  have c5 := code_ten (v := (e.names.length : Nat)) (by omega) (by omega)
  have c6 := namesItems_le e.names hs
  unfold bodyE headItems
  simp only [List.length_append]
  omega
theorem entP_size {s : List UInt8} {e : Ent} (hs : s.length ≤ 140737488351232) (h : entP s = some e) : (bodyE e).length + 100 ≤ 140737488355328 := by
  unfold entP at h
  simp only at h
  split at h
  · rename_i hn
    split at h
    · simp at h
    · simp only [Option.some.injEq] at h
      have hb := headR_le s
      obtain ⟨k1, k2⟩ := namesR_size s (headR s).n.toNat (headR s).at_ (headR s).bad hb
      have hl := namesR_len s (headR s).n.toNat (headR s).at_ (headR s).bad
      have hI : I64 (headR s).cl ∧ I64 (headR s).op ∧ I64 (headR s).ttl ∧ I64 (headR s).tick := by
        unfold headR
        exact ⟨numR_bd _ _ _, numR_bd _ _ _, numR_bd _ _ _, numR_bd _ _ _⟩
      subst h
      have := body_le (e := ⟨(headR s).cl, (headR s).op, (headR s).ttl, (headR s).tick, (namesR s (headR s).n.toNat (headR s).at_ (headR s).bad).1⟩) hI.1 hI.2.1 hI.2.2.1 hI.2.2.2 (by simp only; omega) (by simp only; omega)
      simp only at this
      omega
  · simp at h
def FirstPost (s : ByteArray) (w : World) (x : Ending) (w' : World) : Prop :=
  Ext w w' ∧ ((∃ e n v, firstP s.data.toList = some (e, n) ∧ x = .returned (.tuple #[entV e v, .int .i64 (n : Int), .bool true]) ∧ NmsAt w' (fun k => w.heap.size ≤ k) v e.names) ∨ (firstP s.data.toList = none ∧ ∃ e A k c n, x = .returned (.tuple #[entV e (.slice A k c), .int .i64 n, .bool false])))
set_option maxRecDepth 100000
theorem first_any (s : ByteArray) (hs : s.size ≤ 140737488351232) (w : World) : Calls Try.prog 84 #[.string s] w (FirstPost s w) := by
  obtain ⟨L, hL⟩ : ∃ L, s.data.toList = L := ⟨_, rfl⟩
  obtain ⟨x1, t1, b1, h1⟩ : ∃ v t b, textR L 0 false = (v, t, b) := ⟨_, _, _, rfl⟩
  obtain ⟨v2, t2, b2, h2⟩ : ∃ v t b, numR L t1 b1 = (v, t, b) := ⟨_, _, _, rfl⟩
  have hfp : firstP L = if b2 then none else match entP x1 with | none => none | some e => if encE e = (0, L.take t2) then some (e, t2) else none := by
    unfold firstP
    simp only [h1, h2]
    rfl
  have hxl : x1.length ≤ s.size := by
    have a := textR_size (s := L) (t := 0) (b := false) (Nat.zero_le _)
    have b := textR_le (s := L) (t := 0) (b := false) (Nat.zero_le _)
    rw [h1] at a b
    have : L.length = s.size := by rw [← hL]; rfl
    simp only at a b
    omega
  rw [← hL] at h1 h2
  have H1 := Lib.hid h1
  have H2 := Lib.hid h2
  have Hfp := Lib.hid hfp
  have HL := Lib.hid hL
  clear h1 h2 hfp hL
  have hst0 : NSt w ((w.alloc (.cells #[.int .i64 0, .int .i64 0, .int .i64 0, .int .i64 0, .slice none 0 0] 103)).alloc (.cells #[.string s, .int .i64 0, .bool false] 165)) w.heap.size (w.heap.size + 1) s 0 false := by
    refine ⟨⟨by simp, fun i => by go_simp, by go_simp, by go_simp, by go_simp⟩, ⟨by simp; omega, fun i => by go_simp, by go_simp, by go_simp, by go_simp, by go_simp, by go_simp⟩, ((Ext.refl w).alloc _).alloc _, by omega⟩
  have Hs0 := Lib.hid hst0
  clear hst0
  obtain ⟨cb, hcb⟩ : ∃ cb, w.heap.size = cb := ⟨_, rfl⟩
  rw [hcb] at Hs0
  have hne : cb ≠ cb + 1 := by omega
  have hge : w.heap.size ≤ cb + 1 := by omega
  have hcw : w.heap.size ≤ cb := by omega
  go_enter Try.func84, Try.ntmps84
  go_wp2_with fail
  refine (text_any (cb + 1) s 0 false (by omega) (by omega) _ Hs0.out.rdr).mono ?_
  intro x w1 hp
  obtain ⟨rfl, hs1, _⟩ := Hs0.out.text H1.out hne hge hp
  have Hs1 := Lib.hid hs1
  clear hp hs1 Hs0
  go_wp2_with fail
  refine (number_any (cb + 1) s t1 b1 Hs1.out.le (by omega) _ Hs1.out.rdr).mono ?_
  intro x w2 hp
  obtain ⟨rfl, hs2⟩ := Hs1.out.num H2.out hne hge hp
  have Hs2 := Lib.hid hs2
  clear hp hs2 Hs1
  cases b2 with
  | true =>
    have Hno := Lib.hid (show firstP s.data.toList = none by rw [HL.out, Hfp.out]; rfl)
    obtain ⟨g1, g2, c0, c1, c2, c3, c4⟩ := Hs2.out.res
    obtain ⟨r1, r2, r3, r4, r5⟩ := Hs2.out.rdr
    go_wp2_with fail
    exact bodyPost_ret (v := .tuple #[entV ⟨0, 0, 0, 0, []⟩ (.slice none 0 0), .int .i64 0, .bool false]) (by simp [results, Try.results84, go_sem, entV, *]) rfl ⟨by repeat (first | exact Hs2.out.ext | apply Ext.drew | (refine ext_setCell ?_ hcw _)), .inr ⟨Hno.out, _, _, _, _, _, rfl⟩⟩
  | false =>
    obtain ⟨r1, r2, r3, r4, r5⟩ := Hs2.out.rdr
    have hz2 : cb + 1 < w2.heap.size := r1
    go_wp2_with fail
    refine (entry_any (bs x1) (by rw [bs_size]; omega) _).mono ?_
    rintro x w3 ⟨hx3, ⟨e, v, hent, rfl, hnm⟩ | ⟨hent, e, A, k, c, rfl⟩⟩
    · have Hent := Lib.hid hent
      have Hs3 := Lib.hid (show NSt w w3 cb (cb + 1) s t2 false from ⟨Hs2.out.rdr.ext hx3, Hs2.out.res.ext hx3, Hs2.out.ext.trans hx3, Hs2.out.le⟩)
      have Hnm := Lib.hid hnm
      have hbd := entP_size (by rw [bs_list]; omega) hent
      clear hx3 hent hnm Hs2 r1 r2 r3 r4 r5
      obtain ⟨A, c, rfl⟩ := Hnm.out.shape
      have hxa : Ext w3 (w3.alloc (.cells #[.int .i64 e.cl, .int .i64 e.op, .int .i64 e.ttl, .int .i64 e.tick, .slice A e.names.length c] 103)) := (Ext.refl w3).alloc _
      have he4 : EntAt (w3.alloc (.cells #[.int .i64 e.cl, .int .i64 e.op, .int .i64 e.ttl, .int .i64 e.tick, .slice A e.names.length c] 103)) w3.heap.size e (.slice A e.names.length c) := ⟨by simp, fun i => by go_simp, by go_simp, by go_simp, by go_simp, by go_simp, by go_simp⟩
      have Hs4 := Lib.hid (Hs3.out.alloc (.cells #[.int .i64 e.cl, .int .i64 e.op, .int .i64 e.ttl, .int .i64 e.tick, .slice A e.names.length c] 103))
      have Hnm4 := Lib.hid (Hnm.out.ext hxa)
      have hz3 : cb + 1 < w3.heap.size := Hs3.out.rdr.1
      obtain ⟨eb, heb⟩ : ∃ eb, w3.heap.size = eb := ⟨_, rfl⟩
      obtain ⟨w4, hw4⟩ : ∃ w4, w3.alloc (.cells #[.int .i64 e.cl, .int .i64 e.op, .int .i64 e.ttl, .int .i64 e.tick, .slice A e.names.length c] 103) = w4 := ⟨_, rfl⟩
      rw [heb] at he4
      rw [hw4] at he4 Hs4 Hnm4
      have He4 := Lib.hid he4
      obtain ⟨e1, e2, e3, e4, e5, e6, e7⟩ := he4
      have hne2 : ¬ cb = eb := by omega
      have hne3 : ¬ cb = cb + 1 := by omega
      clear hxa Hs3 Hnm
      unfold entV
      go_wp2_with fail
      refine (encode_any e (.slice A e.names.length c) _ Hnm4.out hbd).mono ?_
      rintro x w5 ⟨rfl, hx5⟩
      obtain ⟨code, ys, hcy⟩ : ∃ code ys, encE e = (code, ys) := ⟨_, _, rfl⟩
      rw [hcy]
      have Hcy := Lib.hid hcy
      have hex : s.extract 0 t2 = bs (L.take t2) := by
        apply ByteArray.ext
        rw [ByteArray.data_extract]
        apply Array.ext'
        rw [Array.toList_extract, HL.out]
        show List.extract L 0 t2 = L.take t2
        rw [List.extract_eq_take_drop]; simp
      have Hex := Lib.hid hex
      have Hs5 := Lib.hid (show NSt w w5 cb (cb + 1) s t2 false from ⟨Hs4.out.rdr.ext hx5, Hs4.out.res.ext hx5, Hs4.out.ext.trans hx5, Hs4.out.le⟩)
      have Hnm5 := Lib.hid (Hnm4.out.ext hx5)
      obtain ⟨f1, f2, f3, f4, f5, f6, f7⟩ := He4.out.ext hx5
      obtain ⟨r1, r2, r3, r4, r5⟩ := Hs5.out.rdr
      obtain ⟨z1, z2, z3, z4, z5, z6, z7⟩ := Hs5.out.res
      have hle := Hs5.out.le
      have q0 : (0 : Int) ≤ (t2 : Int) := by omega
      have q1 : (t2 : Int) ≤ (s.size : Int) := by omega
      clear hcy hex hx5 e1 e2 e3 e4 e5 e6 e7 Hs4 Hnm4 He4 hw4 heb
      simp only
      by_cases hc0 : code = 0
      · subst hc0
        by_cases hys : ys = L.take t2
        · have Hyes := Lib.hid (show firstP s.data.toList = some (e, t2) by rw [HL.out, Hfp.out]; simp only [Bool.false_eq_true, if_false]; rw [← bs_list x1, Hent.out]; simp only; rw [if_pos (by rw [Hcy.out, hys])])
          have heq : ((bs ys).toList == (s.extract 0 t2).toList) = true := by rw [Hex.out, hys]; exact beq_self_eq_true _
          clear hys
          go_wp2_with fail
          go_region
          go_wp2_with fail
          exact bodyPost_ret (v := .tuple #[entV e (.slice A e.names.length c), .int .i64 (t2 : Int), .bool true]) (by simp [results, Try.results84, go_sem, entV, *]) rfl ⟨by repeat (first | exact Hs5.out.ext | apply Ext.drew | (refine ext_setCell ?_ hcw _)), .inl ⟨e, t2, _, Hyes.out, rfl, (Rd.chg Hnm5.out (T := (· = cb)) (by repeat (first | exact Chg.refl _ _ | apply Chg.drew | (refine Chg.setCell ?_ (.inl (by simp)) _))) (fun q hq e => by omega)).mono (fun q hq _ => by omega)⟩⟩
        · have Hno := Lib.hid (show firstP s.data.toList = none by rw [HL.out, Hfp.out]; simp only [Bool.false_eq_true, if_false]; rw [← bs_list x1, Hent.out]; simp only; rw [if_neg (by rw [Hcy.out]; simp [hys])])
          have heq : ((bs ys).toList == (s.extract 0 t2).toList) = false := by
            rw [Hex.out, beq_eq_false_iff_ne, ByteArray.toList_eq, ByteArray.toList_eq]
            exact hys
          clear hys
          go_wp2_with fail
          go_region
          go_wp2_with fail
          exact bodyPost_ret (v := .tuple #[entV e (.slice A e.names.length c), .int .i64 (t2 : Int), .bool false]) (by simp [results, Try.results84, go_sem, entV, *]) rfl ⟨by repeat (first | exact Hs5.out.ext | apply Ext.drew | (refine ext_setCell ?_ hcw _)), .inr ⟨Hno.out, e, _, _, _, _, rfl⟩⟩
      · have Hno := Lib.hid (show firstP s.data.toList = none by rw [HL.out, Hfp.out]; simp only [Bool.false_eq_true, if_false]; rw [← bs_list x1, Hent.out]; simp only; rw [if_neg (by rw [Hcy.out]; simp [hc0])])
        have hcd : (code == 0) = false := by simpa using hc0
        go_wp2_with fail
        go_region
        go_wp2_with fail
        exact bodyPost_ret (v := .tuple #[entV e (.slice A e.names.length c), .int .i64 (t2 : Int), .bool false]) (by simp [results, Try.results84, go_sem, entV, *]) rfl ⟨by repeat (first | exact Hs5.out.ext | apply Ext.drew | (refine ext_setCell ?_ hcw _)), .inr ⟨Hno.out, e, _, _, _, _, rfl⟩⟩
    · have Hno := Lib.hid (show firstP s.data.toList = none by rw [HL.out, Hfp.out, ← bs_list x1, hent]; rfl)
      obtain ⟨g1, g2, c0, c1, c2, c3, c4⟩ := Hs2.out.res.ext hx3
      have Hx3 := Lib.hid (Hs2.out.ext.trans hx3)
      clear hx3 hent Hs2 r1 r2 r3 r4 r5
      unfold entV
      go_wp2_with fail
      exact bodyPost_ret (v := .tuple #[entV ⟨0, 0, 0, 0, []⟩ (.slice none 0 0), .int .i64 0, .bool false]) (by simp [results, Try.results84, go_sem, entV, *]) rfl ⟨by repeat (first | exact Hx3.out | apply Ext.drew | apply Ext.alloc | (refine ext_setCell ?_ hcw _)), .inr ⟨Hno.out, _, _, _, _, _, rfl⟩⟩
end Go.Proofs.Ytfbhbnolnjcaiaa
