/-
  The reference's first (33.3) finds the entry at the beginning of a journal as the plain law says.
  Conditions: the journal is within a process's reach.
-/
import Derived.Test.YtfbhbnolnjcaiaaFirst
import Derived.Test.YtfbhbnolnjcaiaaEncode2
import Derived.Deep.CutBlock
namespace Go.Proofs.Ytfbhbnolnjcaiaa
open Go.RowKit Go.Sort
set_option maxHeartbeats 8000000
set_option maxRecDepth 20000

theorem rounds_lt {n : Int} {k : Nat} : k < rounds n ↔ (k : Int) < n ∧ (k : Int) ≤ 16 := by unfold rounds; omega
theorem rounds_le (n : Int) : rounds n ≤ 17 := by unfold rounds; omega
theorem nameR_bad (s : List UInt8) (t : Nat) : (nameR s t true).2.2 = true := by simp [nameR, textR, numR]
theorem namesR_bad_mono {s : List UInt8} {t : Nat} {b : Bool} {k : Nat} (h : (namesR s k t b).2.2 = true) : ∀ m, (namesR s (k + m) t b).2.2 = true
  | 0 => h
  | m + 1 => by
    have := namesR_bad_mono h m
    rw [← Nat.add_assoc, namesR_snoc]
    simp only [this, nameR_bad]
theorem firstS_bad {L X : List UInt8} {t1 : Nat} {v1 v2 v3 v4 v5 : Int} {t5 k : Nat} {b5 : Bool} (h1 : textR L 0 false = (X, t1, false)) (h2 : headR X = ⟨v1, v2, v3, v4, v5, t5, b5⟩) (hk : k ≤ rounds v5) (h3 : (namesR X k t5 b5).2.2 = true) : firstP L = none := by
  rw [← firstS_eq]
  unfold firstS
  simp only [h1, h2, Bool.false_eq_true, if_false]
  rw [if_neg]
  rintro ⟨hq, _⟩
  have h4 := (namesS_ok X (rounds v5) t5 b5 hq).1
  have h5 := namesR_bad_mono h3 (rounds v5 - k)
  rw [show k + (rounds v5 - k) = rounds v5 by omega] at h5
  rw [h4, h5] at hq
  simp at hq
theorem firstS_val {L X : List UInt8} {t1 : Nat} {v1 v2 v3 v4 v5 : Int} {t5 t : Nat} {b5 : Bool} {ns : List Nm} (h1 : textR L 0 false = (X, t1, false)) (h2 : headR X = ⟨v1, v2, v3, v4, v5, t5, b5⟩) (h3 : namesR X (rounds v5) t5 b5 = (ns, t, false)) :
    firstP L = if (encE ⟨v1, v2, v3, v4, ns⟩).1 = 0 ∧ (encE ⟨v1, v2, v3, v4, ns⟩).2 <+: L then some (⟨v1, v2, v3, v4, ns⟩, (encE ⟨v1, v2, v3, v4, ns⟩).2.length) else none := by
  rw [← firstS_eq]
  unfold firstS
  have h4 := namesS_of X (rounds v5) t5 b5 (by rw [h3])
  simp only [h1, h2, Bool.false_eq_true, if_false, h4, h3, true_and]
theorem firstS_none {L X : List UInt8} {t1 : Nat} (h1 : textR L 0 false = (X, t1, true)) : firstP L = none := by
  rw [← firstS_eq]
  unfold firstS
  simp [h1]
def RFirstPost (s : ByteArray) (w : World) (x : Ending) (w' : World) : Prop :=
  Ext w w' ∧ ((∃ e n v, firstP s.data.toList = some (e, n) ∧ x = .returned (.tuple #[entV e v, .int .i64 (n : Int)]) ∧ NmsAt w' (fun k => w.heap.size ≤ k) v e.names) ∨ (firstP s.data.toList = none ∧ ∃ e A k c, x = .returned (.tuple #[entV e (.slice A k c), .int .i64 0])))
/-- Where the loop over the names ends. -/
def EEnd (w wx : World) (cb rb eb B : Nat) (xb : ByteArray) (e : Ent) (v5 : Int) (t5 : Nat) (b5 : Bool) : Prop :=
  ∃ k ns t b v, k ≤ rounds v5 ∧ namesR xb.data.toList k t5 b5 = (ns, t, b) ∧ (b = true ∨ k = rounds v5) ∧ NSt w wx cb rb xb t b ∧ wx.ownsRow B 68 3 v k (nmsCells ns) ∧ EntAt wx eb e v ∧ B ≤ wx.heap.size
set_option maxRecDepth 100000
theorem rfirst_any (s : ByteArray) (hs : s.size ≤ 140737488351232) (w : World) : Calls Try.prog 85 #[.string s] w (RFirstPost s w) := by
  obtain ⟨L, hL⟩ : ∃ L, s.data.toList = L := ⟨_, rfl⟩
  obtain ⟨x1, t1, b1, h1⟩ : ∃ v t b, textR L 0 false = (v, t, b) := ⟨_, _, _, rfl⟩
  have hxl : x1.length ≤ s.size := by
    have a := textR_size (s := L) (t := 0) (b := false) (Nat.zero_le _)
    have b := textR_le (s := L) (t := 0) (b := false) (Nat.zero_le _)
    rw [h1] at a b
    have : L.length = s.size := by rw [← hL]; rfl
    simp only at a b
    omega
  have HT := Lib.hid h1
  rw [← hL] at h1
  have H1 := Lib.hid h1
  have HL := Lib.hid hL
  clear h1 hL
  have hst0 : NSt w ((w.alloc (.cells #[.int .i64 0, .int .i64 0, .int .i64 0, .int .i64 0, .slice none 0 0] 103)).alloc (.cells #[.string s, .int .i64 0, .bool false] 171)) w.heap.size (w.heap.size + 1) s 0 false := by
    refine ⟨⟨by simp, fun i => by go_simp, by go_simp, by go_simp, by go_simp⟩, ⟨by simp; omega, fun i => by go_simp, by go_simp, by go_simp, by go_simp, by go_simp, by go_simp⟩, ((Ext.refl w).alloc _).alloc _, by omega⟩
  have Hs0 := Lib.hid hst0
  clear hst0
  obtain ⟨cb, hcb⟩ : ∃ cb, w.heap.size = cb := ⟨_, rfl⟩
  rw [hcb] at Hs0
  have hne : cb ≠ cb + 1 := by omega
  have hge : w.heap.size ≤ cb + 1 := by omega
  have hcw : w.heap.size ≤ cb := by omega
  go_enter Try.func85, Try.ntmps85
  go_wp2_with fail
  refine (rtext_any (cb + 1) s 0 false (by omega) (by omega) _ Hs0.out.rdr).mono ?_
  intro x w1 hp
  obtain ⟨rfl, hs1, _⟩ := Hs0.out.text H1.out hne hge hp
  have Hs1 := Lib.hid hs1
  clear hp hs1 Hs0
  cases b1 with
  | true =>
    have Hno := Lib.hid (show firstP s.data.toList = none by rw [HL.out]; exact firstS_none HT.out)
    obtain ⟨g1, g2, c0, c1, c2, c3, c4⟩ := Hs1.out.res
    obtain ⟨r1, r2, r3, r4, r5⟩ := Hs1.out.rdr
    go_wp2_with fail
    exact bodyPost_ret (v := .tuple #[entV ⟨0, 0, 0, 0, []⟩ (.slice none 0 0), .int .i64 0]) (by simp [results, Try.results85, go_sem, entV, *]) rfl ⟨by repeat (first | exact Hs1.out.ext | apply Ext.drew | (refine ext_setCell ?_ hcw _)), .inr ⟨Hno.out, ⟨0, 0, 0, 0, []⟩, _, _, _, rfl⟩⟩
  | false =>
    obtain ⟨r1, r2, r3, r4, r5⟩ := Hs1.out.rdr
    have Hq0 := Lib.hid (show NSt w (w1.alloc (.cells #[.string (bs x1), .int .i64 0, .bool false] 171)) cb w1.heap.size (bs x1) 0 false from ⟨⟨by simp, fun i => by go_simp, by go_simp, by go_simp, by go_simp⟩, Hs1.out.res.ext ((Ext.refl _).alloc _), Hs1.out.ext.alloc _, by omega⟩)
    obtain ⟨xb, hxb⟩ : ∃ xb, bs x1 = xb := ⟨_, rfl⟩
    have hxs : xb.size ≤ 140737488351232 := by rw [← hxb, bs_size]; omega
    obtain ⟨X, hX⟩ : ∃ X, xb.data.toList = X := ⟨_, rfl⟩
    have hXx : x1 = X := by rw [← hX, ← hxb]; rfl
    rw [hXx] at HT
    obtain ⟨rb, hrb⟩ : ∃ rb, w1.heap.size = rb := ⟨_, rfl⟩
    have hrc : cb + 1 < rb := by rw [← hrb]; exact r1
    rw [hxb, hrb] at Hq0
    have HX := Lib.hid hX
    obtain ⟨v1, t1', b1', h1⟩ : ∃ v t b, numR X 0 false = (v, t, b) := ⟨_, _, _, rfl⟩
    obtain ⟨v2, t2, b2, h2⟩ : ∃ v t b, numR X t1' b1' = (v, t, b) := ⟨_, _, _, rfl⟩
    obtain ⟨v3, t3, b3, h3⟩ : ∃ v t b, numR X t2 b2 = (v, t, b) := ⟨_, _, _, rfl⟩
    obtain ⟨v4, t4, b4, h4⟩ : ∃ v t b, numR X t3 b3 = (v, t, b) := ⟨_, _, _, rfl⟩
    obtain ⟨v5, t5, b5, h5⟩ : ∃ v t b, numR X t4 b4 = (v, t, b) := ⟨_, _, _, rfl⟩
    have Hhead := Lib.hid (show headR X = ⟨v1, v2, v3, v4, v5, t5, b5⟩ by unfold headR; simp only [h1, h2, h3, h4, h5])
    have Hi64 := Lib.hid (show I64 v1 ∧ I64 v2 ∧ I64 v3 ∧ I64 v4 from ⟨by have := numR_bd X 0 false; rw [h1] at this; exact this, by have := numR_bd X t1' b1'; rw [h2] at this; exact this, by have := numR_bd X t2 b2; rw [h3] at this; exact this, by have := numR_bd X t3 b3; rw [h4] at this; exact this⟩)
    have h5bd := numR_bd X t4 b4
    rw [h5] at h5bd
    simp only at h5bd
    rw [← hX] at h1 h2 h3 h4 h5
    have N1 := Lib.hid h1
    have N2 := Lib.hid h2
    have N3 := Lib.hid h3
    have N4 := Lib.hid h4
    have N5 := Lib.hid h5
    have hne2 : cb ≠ rb := by omega
    have hge2 : w.heap.size ≤ rb := by omega
    have Hxb := Lib.hid hxb
    clear h1 h2 h3 h4 h5 hX hXx Hs1
    go_wp2_with fail
    have HS0 := Lib.hid Hq0.out
    clear Hq0
    refine (rnumber_any rb xb 0 false HS0.out.le (by omega) _ HS0.out.rdr).mono ?_
    intro x u1 hp
    obtain ⟨rfl, hs1⟩ := HS0.out.num N1.out hne2 hge2 hp
    have HS1 := Lib.hid hs1
    clear hp hs1 HS0 hrb
    go_wp2_with fail
    refine (rnumber_any rb xb t1' b1' HS1.out.le (by omega) _ HS1.out.rdr).mono ?_
    intro x u2 hp
    obtain ⟨rfl, hs2⟩ := HS1.out.num N2.out hne2 hge2 hp
    have HS2 := Lib.hid hs2
    clear hp hs2 HS1
    go_wp2_with fail
    refine (rnumber_any rb xb t2 b2 HS2.out.le (by omega) _ HS2.out.rdr).mono ?_
    intro x u3 hp
    obtain ⟨rfl, hs3⟩ := HS2.out.num N3.out hne2 hge2 hp
    have HS3 := Lib.hid hs3
    clear hp hs3 HS2
    go_wp2_with fail
    refine (rnumber_any rb xb t3 b3 HS3.out.le (by omega) _ HS3.out.rdr).mono ?_
    intro x u4 hp
    obtain ⟨rfl, hs4⟩ := HS3.out.num N4.out hne2 hge2 hp
    have HS4 := Lib.hid (hs4.alloc (.cells #[.int .i64 v1, .int .i64 v2, .int .i64 v3, .int .i64 v4, .slice none 0 0] 103))
    have He4 := Lib.hid (show EntAt (u4.alloc (.cells #[.int .i64 v1, .int .i64 v2, .int .i64 v3, .int .i64 v4, .slice none 0 0] 103)) u4.heap.size ⟨v1, v2, v3, v4, []⟩ (.slice none 0 0) from ⟨by simp, fun i => by go_simp, by go_simp, by go_simp, by go_simp, by go_simp, by go_simp⟩)
    have hz4 : rb < u4.heap.size := hs4.rdr.1
    clear hp hs4 HS3
    go_wp2_with fail
    refine (rnumber_any rb xb t4 b4 HS4.out.le (by omega) _ HS4.out.rdr).mono ?_
    intro x u5 hp
    obtain ⟨rfl, hs5⟩ := HS4.out.num N5.out hne2 hge2 hp
    have HS5 := Lib.hid hs5
    have He5 := Lib.hid (He4.out.chg (S := (· = rb)) (by unfold NumPost at hp; exact hp.2.2) (by omega))
    obtain ⟨eb, heb⟩ : ∃ eb, u4.heap.size = eb := ⟨_, rfl⟩
    rw [heb] at He5
    have hB : eb < u5.heap.size := He5.out.1
    have Hest := Lib.hid (show ESt w u5 cb rb eb u5.heap.size xb ⟨v1, v2, v3, v4, []⟩ t5 b5 0 (.slice none 0 0) from ⟨⟨[], t5, b5, rfl, hs5, World.ownsRow_nil _ _ _ _⟩, He5.out, Nat.le_refl _⟩)
    obtain ⟨B, hBe⟩ : ∃ B, u5.heap.size = B := ⟨_, rfl⟩
    rw [hBe] at Hest hB
    have hcB : rb < eb := by omega
    clear hp hs5 HS4 He4 HS5 He5 hBe
    go_upto_block 0 with fail
    clear heb
    go_cut [9] from 36 to 63 (fun _ wx => EEnd w wx cb rb eb B xb ⟨v1, v2, v3, v4, []⟩ v5 t5 b5)
    case first =>
      go_wp2_with fail
      go_loopw [9] (fun o wr => ∃ k : Nat, k ≤ rounds v5 ∧ o = .int .i64 (k : Int) ∧ ∃ v, ESt w wr cb rb eb B xb ⟨v1, v2, v3, v4, []⟩ t5 b5 k v) (fun o _ => 17 - (intOf o).toNat)
      case atStart => exact ⟨0, by omega, rfl, _, Hest.out⟩
      case round =>
        clear Hest
        have hr17 := rounds_le v5
        obtain ⟨k, hk, rfl, v, ⟨ns, t, b, hns, hst, hown⟩, hent, hbig⟩ := hrel
        obtain ⟨a, c, rfl⟩ := own_shape hown
        have Hns := Lib.hid hns
        have Hst := Lib.hid hst
        have Hown := Lib.hid hown
        have Hent := Lib.hid hent
        obtain ⟨r1, r2, r3, r4, r5⟩ := hst.rdr
        clear hns hst hown
        by_cases hlt : k < rounds v5
        · obtain ⟨l1, l2⟩ := rounds_lt.1 hlt
          have hd1 : decide ((k : Int) < v5) = true := by simpa using l1
          have hd2 : decide ((k : Int) ≤ 16) = true := by simpa using l2
          cases b with
          | true =>
            go_wp2_with fail
            go_meet
            exact ⟨k, ns, t, true, _, hk, Hns.out, .inl rfl, Hst.out, Hown.out, Hent.out, hbig⟩
          | false =>
            have hn17 : k < 17 := by omega
            obtain ⟨y1, s1, d1, g1⟩ : ∃ v t' b', textR X t false = (v, t', b') := ⟨_, _, _, rfl⟩
            obtain ⟨y2, s2, d2, g2⟩ : ∃ v t' b', textR X s1 d1 = (v, t', b') := ⟨_, _, _, rfl⟩
            obtain ⟨y3, s3, d3, g3⟩ : ∃ v t' b', textR X s2 d2 = (v, t', b') := ⟨_, _, _, rfl⟩
            have Hname := Lib.hid (show nameR X t false = (⟨bs y1, bs y2, bs y3⟩, s3, d3) by unfold nameR; simp only [g1, g2, g3])
            rw [← HX.out] at g1 g2 g3
            have G1 := Lib.hid g1
            have G2 := Lib.hid g2
            have G3 := Lib.hid g3
            clear g1 g2 g3
            obtain ⟨_, _, _, _, _, _, p4⟩ := hent
            go_wp2_with fail
            refine wp_region_last (S := fun w' => w'.cell? ⟨eb, 4, none⟩ = some (.slice a k c)) 12 12 (by rfl) (by decide) (by kernel_rfl) (by kernel_rfl) ?_ (fun hHeld => ?_)
            · go_keep
            refine wpAnyH_take (i := 0) (oi := _) (v := ?_) rfl (by kernel_rfl) (by kernel_rfl) (by kernel_rfl) (fun _ _ _ h => h) (Or.inl ⟨by rfl, ?_⟩) (by assumption) ?_; rotate_left; (focus ((intro w hSw; (try dsimp only at hSw); go_simp); (first | done | (with_reducible rfl)))); (try simp only [Act.put]); (try simp only [List.setIfInBounds_toArray])
            refine wpAnyH_take (i := 1) (oi := _) (v := ?_) rfl (by kernel_rfl) (by kernel_rfl) (by kernel_rfl) (fun _ _ _ h => h) (Or.inl ⟨by rfl, ?_⟩) (by assumption) ?_; rotate_left; (focus ((intro w hSw; (try dsimp only at hSw); go_simp); (first | done | (with_reducible rfl)))); (try simp only [Act.put]); (try simp only [List.setIfInBounds_toArray])
            refine wpAnyH_take (i := 2) (oi := _) (v := ?_) rfl (by kernel_rfl) (by kernel_rfl) (by kernel_rfl) (fun _ _ _ h => h) (Or.inl ⟨by rfl, ?_⟩) (by assumption) ?_; rotate_left; (focus ((intro w hSw; (try dsimp only at hSw); go_simp); (first | done | (with_reducible rfl)))); (try simp only [Act.put]); (try simp only [List.setIfInBounds_toArray])
            refine wpAnyH_take (i := 4) (oi := _) (v := ?_) rfl (by kernel_rfl) (by kernel_rfl) (by kernel_rfl) (fun _ _ _ h => h) (Or.inl ⟨by rfl, ?_⟩) (by assumption) ?_; rotate_left; (focus ((intro w hSw; (try dsimp only at hSw); go_simp); (first | done | (with_reducible rfl)))); (try simp only [Act.put]); (try simp only [List.setIfInBounds_toArray])
            refine wpAnyH_take (i := 6) (oi := _) (v := ?_) rfl (by kernel_rfl) (by kernel_rfl) (by kernel_rfl) (fun _ _ _ h => h) (Or.inl ⟨by rfl, ?_⟩) (by assumption) ?_; rotate_left; (focus ((intro w hSw; (try dsimp only at hSw); go_simp); (first | done | (with_reducible rfl)))); (try simp only [Act.put]); (try simp only [List.setIfInBounds_toArray])
            refine wpAnyH_ready (rs := [3]) (by kernel_rfl) (by simp) ?_; refine AllReadyH.cons (o := _) rfl (fun K hK => ?_) AllReadyH.nil; go_simp
            refine (rtext_any rb xb t false Hst.out.le (by omega) _ Hst.out.drew.rdr).mono ?_
            intro x w6 hp
            obtain ⟨rfl, hs6, hc6⟩ := Hst.out.drew.text G1.out hne2 hge2 hp
            have hbig := Nat.le_trans hbig hc6.size
            have Hs6 := Lib.hid hs6
            have He6 := Lib.hid (Hent.out.chg (w := wr.drew) hc6 (by omega))
            have Ho6 := Lib.hid (own_far (a := wr.drew) Hown.out.drew hc6 (by omega))
            have p4 := He6.out.2.2.2.2.2.2
            clear hp hs6 hc6 Hst Hent Hown
            (try go_wp2_with fail); refine hK.out _ _ ?_ (fun hHeld => ?_); (focus ((try dsimp only); (first | done | go_keep))); clear hK K; try simp only [Act.put, List.setIfInBounds_toArray, List.set_cons_zero, List.set_cons_succ]
            refine wpAnyH_ready (rs := [5]) (by kernel_rfl) (by simp) ?_; refine AllReadyH.cons (o := _) rfl (fun K hK => ?_) AllReadyH.nil; go_simp
            refine (rtext_any rb xb s1 d1 Hs6.out.le (by omega) _ Hs6.out.rdr).mono ?_
            intro x w7 hp
            obtain ⟨rfl, hs7, hc7⟩ := Hs6.out.text G2.out hne2 hge2 hp
            have hbig := Nat.le_trans hbig hc7.size
            have Hs7 := Lib.hid hs7
            have He7 := Lib.hid (He6.out.chg hc7 (by omega))
            have Ho7 := Lib.hid (own_far Ho6.out hc7 (by omega))
            have p4 := He7.out.2.2.2.2.2.2
            clear hp hs7 hc7 Hs6 He6 Ho6
            (try go_wp2_with fail); refine hK.out _ _ ?_ (fun hHeld => ?_); (focus ((try dsimp only); (first | done | go_keep))); clear hK K; try simp only [Act.put, List.setIfInBounds_toArray, List.set_cons_zero, List.set_cons_succ]
            refine wpAnyH_ready (rs := [7]) (by kernel_rfl) (by simp) ?_; refine AllReadyH.cons (o := _) rfl (fun K hK => ?_) AllReadyH.nil; go_simp
            refine (rtext_any rb xb s2 d2 Hs7.out.le (by omega) _ Hs7.out.rdr).mono ?_
            intro x w8 hp
            obtain ⟨rfl, hs8, hc8⟩ := Hs7.out.text G3.out hne2 hge2 hp
            have hbig := Nat.le_trans hbig hc8.size
            have Hs8 := Lib.hid hs8
            have He8 := Lib.hid (He7.out.chg hc8 (by omega))
            have Ho8 := Lib.hid (own_far Ho7.out hc8 (by omega))
            have p4 := He8.out.2.2.2.2.2.2
            clear hp hs8 hc8 Hs7 He7 Ho7
            (try go_wp2_with fail); refine hK.out _ _ ?_ (fun hHeld => ?_); (focus ((try dsimp only); (first | done | go_keep))); clear hK K; try simp only [Act.put, List.setIfInBounds_toArray, List.set_cons_zero, List.set_cons_succ]
            refine wpAnyH_take (i := 8) (oi := _) (v := ?_) rfl (by kernel_rfl) (by kernel_rfl) (by kernel_rfl) (fun _ _ _ h => h) (Or.inl ⟨by rfl, ?_⟩) (by assumption) ?_; rotate_left; (focus ((intro w hSw; (try dsimp only at hSw); go_simp); (first | done | (with_reducible rfl)))); (try simp only [Act.put]); (try simp only [List.setIfInBounds_toArray])
            refine wpAnyH_ready (rs := [9]) (by kernel_rfl) (by simp) ?_; refine AllReadyH.cons (o := _) rfl (fun K hK => ?_) AllReadyH.nil; go_simp
            have hxn : Ext w8 (w8.alloc (.cells #[.string (bs y1), .string (bs y2), .string (bs y3)] 68)) := (Ext.refl w8).alloc _
            have Hs9 := Lib.hid (Hs8.out.alloc (.cells #[.string (bs y1), .string (bs y2), .string (bs y3)] 68))
            have He9 := Lib.hid (He8.out.ext hxn)
            have Ho9 := Lib.hid (Ho8.out.alloc (.cells #[.string (bs y1), .string (bs y2), .string (bs y3)] 68))
            have hrl := rd_name w8 (bs y1) (bs y2) (bs y3)
            have p4 := He9.out.2.2.2.2.2.2
            have hbz : B ≤ (w8.alloc (.cells #[.string (bs y1), .string (bs y2), .string (bs y3)] 68)).heap.size := by simp; omega
            clear Hs8 He8 Ho8
            (try go_wp2_with fail); refine hK.out _ _ ?_ (fun hHeld => ?_); (focus ((try dsimp only); (first | done | go_keep))); clear hK K; try simp only [Act.put, List.setIfInBounds_toArray, List.set_cons_zero, List.set_cons_succ]
            refine wpAnyH_ready (rs := [10]) (by kernel_rfl) (by simp) ?_
            refine AllReadyH.cons (o := _) rfl (fun K hK => ?_) AllReadyH.nil
            obtain ⟨i0, hi, hz0, hz1, hz2⟩ := info_parts info_name
            refine step_append_rd _ (by rfl) (.tmp 53) (.tmp 61) 29 (by rfl) B 68 i0 _ 3 48 und_names hi hz0 hz1 hz2 (by rfl) (by decide) (.slice a k c) k (nmsCells ns) (by rfl) Ho9.out (fun _ => True) (.slice (some ⟨w8.heap.size, 0, none⟩) 1 1) 1 [.string (bs y1), .string (bs y2), .string (bs y3)] (by rfl) hrl (by simp [Value.oneCell']) (by unfold maxLen; omega) (by omega) hbz ?_
            intro v' w10 ha
            have hcg : Chg (fun i => B ≤ i) (w8.alloc (.cells #[.string (bs y1), .string (bs y2), .string (bs y3)] 68)) w10 := (Chg.refl _ _).grown ha.grown (fun k hk => .inl (Ho9.out.lt k hk).1)
            have hs10 : NSt w w10 cb rb xb s3 d3 := ⟨Hs9.out.rdr.chg hcg (by omega), Hs9.out.res.chg hcg (by omega), Hs9.out.ext.chg_new hcg (fun i hi => by omega), Hs9.out.le⟩
            have He10 := Lib.hid (He9.out.chg hcg (by omega))
            have Hs10 := Lib.hid hs10
            have Ho10 := Lib.hid ha.own
            have hbig := Nat.le_trans hbz hcg.size
            have p4 := He10.out.2.2.2.2.2.2
            clear ha hcg hs10 Hs9 He9 Ho9 hrl hbz
            (try go_wp2_with fail); refine hK.out _ _ ?_ (fun hHeld => ?_); (focus ((try dsimp only); (first | done | go_keep))); clear hK K; (try simp only [Act.put]); (try simp only [List.setIfInBounds_toArray])
            refine wpAnyH_take (i := 11) (oi := _) (v := ?_) rfl (by kernel_rfl) (by kernel_rfl) (by kernel_rfl) (fun _ _ _ h => h) (Or.inl ⟨by rfl, ?_⟩) (by assumption) ?_; rotate_left; (focus ((intro w hSw; (try dsimp only at hSw); go_simp); (first | done | (with_reducible rfl)))); (try simp only [Act.put]); (try simp only [List.setIfInBounds_toArray])
            refine wpAnyH_done (by kernel_rfl) ?_ _
            obtain ⟨a2, c2, hv2⟩ := own_shape Ho10.out
            subst hv2
            obtain ⟨e1, e2, e3, e4, e5, e6, e7⟩ := He10.out
            refine afterZ_wp (o := _) rfl (by rfl) ?_
            go_simp
            have hcf : Chg (· = eb) w10 (w10.setCell ⟨eb, 4, none⟩ (.slice a2 (k + 1) c2)) := (Chg.refl (· = eb) w10).setCell (p := ⟨eb, 4, none⟩) (.inl rfl) _
            have Hend := Lib.hid (show ESt w (w10.setCell ⟨eb, 4, none⟩ (.slice a2 (k + 1) c2)) cb rb eb B xb ⟨v1, v2, v3, v4, []⟩ t5 b5 (k + 1) (.slice a2 (k + 1) c2) from
              ⟨⟨ns ++ [⟨bs y1, bs y2, bs y3⟩], s3, d3, by rw [namesR_snoc, Hns.out, HX.out]; simp only; rw [Hname.out], ⟨Hs10.out.rdr.chg hcf (by omega), Hs10.out.res.chg hcf (by omega), Hs10.out.ext.chg_new hcf (fun i hi => by subst hi; omega), Hs10.out.le⟩, by rw [nmsCells_append]; exact own_far Ho10.out hcf (by omega)⟩, ⟨by simpa [World.setCell] using e1, fun i => by go_simp, by go_simp, by go_simp, by go_simp, by go_simp, by go_simp⟩, by simpa [World.setCell] using hbig⟩)
            clear hcf e1 e2 e3 e4 e5 e6 e7 Hs10 He10 Ho10
            clear r1 r2 r3 r4 r5
            go_wp2_with fail
            go_roundw
            case rel => exact ⟨k + 1, by omega, by go_num, _, Hend.out⟩
            case measure => simp [intOf]; omega
        · have hke : k = rounds v5 := by omega
          have hnd : ¬ ((k : Int) < v5 ∧ (k : Int) ≤ 16) := fun h => hlt (rounds_lt.2 h)
          have Hout := Lib.hid (show EEnd w wr cb rb eb B xb ⟨v1, v2, v3, v4, []⟩ v5 t5 b5 from ⟨k, ns, t, b, _, hk, Hns.out, .inr hke, Hst.out, Hown.out, Hent.out, hbig⟩)
          clear hke hlt hk
          by_cases l1 : (k : Int) < v5
          · have l2 : ¬ (k : Int) ≤ 16 := fun h => hnd ⟨l1, h⟩
            have hd1 : decide ((k : Int) < v5) = true := by simpa using l1
            have hd2 : decide ((k : Int) ≤ 16) = false := by simpa using l2
            clear hnd
            go_wp2_with fail
            go_meet
            exact Hout.out
          · have hd1 : decide ((k : Int) < v5) = false := by simpa using l1
            clear hnd
            go_wp2_with fail
            go_meet
            exact Hout.out
    case rest =>
      clear Hest
      have hr17 := rounds_le v5
      obtain ⟨k, ns, t, b, v, hk, hns, hend, hst, hown, hent, hbig⟩ := hcut
      obtain ⟨a, c, rfl⟩ := own_shape hown
      have hnl : ns.length = k := by have := namesR_len xb.data.toList k t5 b5; rw [hns] at this; exact this
      have hns2 : nmsSize ns ≤ xb.size := by
        have hb := headR_le X
        rw [Hhead.out] at hb
        have hXl : X.length = xb.size := by rw [← HX.out]; rfl
        have := namesR_size xb.data.toList k t5 b5 (by rw [HX.out]; exact hb)
        rw [hns, HX.out] at this
        simp only at this
        omega
      have hbd : (bodyE ⟨v1, v2, v3, v4, ns⟩).length + 100 ≤ 140737488355328 := by
        have := body_le (e := ⟨v1, v2, v3, v4, ns⟩) Hi64.out.1 Hi64.out.2.1 Hi64.out.2.2.1 Hi64.out.2.2.2 (by simp only; omega) (by simp only; omega)
        simp only at this
        omega
      have Hnm := Lib.hid (show NmsAt wc (fun i => B ≤ i) (.slice a k c) ns from by
        unfold NmsAt
        rw [hnl]
        exact Rd.of_own hown fun q hq => (hown.lt q hq).1)
      have Hst := Lib.hid hst
      have Hent := Lib.hid hent
      obtain ⟨e1, e2, e3, e4, e5, e6, e7⟩ := hent
      have hval : b = false → firstP s.data.toList = if (encE ⟨v1, v2, v3, v4, ns⟩).1 = 0 ∧ (encE ⟨v1, v2, v3, v4, ns⟩).2 <+: L then some (⟨v1, v2, v3, v4, ns⟩, (encE ⟨v1, v2, v3, v4, ns⟩).2.length) else none := by
        rintro rfl
        have hkr : k = rounds v5 := by rcases hend with h | h; simp at h; exact h
        subst hkr
        rw [HL.out]
        exact firstS_val HT.out Hhead.out (by rw [← HX.out]; exact hns)
      have hbad : b = true → firstP s.data.toList = none := by
        rintro rfl
        rw [HL.out]
        exact firstS_bad HT.out Hhead.out hk (by rw [← HX.out, hns])
      have Hval := Lib.hid hval
      have Hbad := Lib.hid hbad
      clear hst hown hns hend hval hbad hk
      go_wp2_with fail
      refine (rencode_any ⟨v1, v2, v3, v4, ns⟩ (.slice a k c) _ Hnm.out hbd).mono ?_
      rintro x w8 ⟨rfl, hx8⟩
      obtain ⟨code, ys, hcy⟩ : ∃ code ys, encE ⟨v1, v2, v3, v4, ns⟩ = (code, ys) := ⟨_, _, rfl⟩
      rw [hcy]
      have Hcy := Lib.hid hcy
      have Hs8 := Lib.hid (show NSt w w8 cb rb xb t b from ⟨Hst.out.rdr.ext hx8, Hst.out.res.ext hx8, Hst.out.ext.trans hx8, Hst.out.le⟩)
      have Hnm8 := Lib.hid (Hnm.out.ext hx8)
      obtain ⟨f1, f2, f3, f4, f5, f6, f7⟩ := Hent.out.ext hx8
      obtain ⟨r1, r2, r3, r4, r5⟩ := Hs8.out.rdr
      obtain ⟨z1, z2, z3, z4, z5, z6, z7⟩ := Hs8.out.res
      have hysz := bs_size ys
      clear hcy hx8 e1 e2 e3 e4 e5 e6 e7 Hst Hnm Hent
      simp only
      cases b with
      | true =>
        have Hno := Lib.hid (Hbad.out rfl)
        clear Hval Hbad
        go_wp2_with fail
        exact bodyPost_ret (v := .tuple #[entV ⟨0, 0, 0, 0, []⟩ (.slice none 0 0), .int .i64 0]) (by simp [results, Try.results85, go_sem, entV, *]) rfl ⟨by repeat (first | exact Hs8.out.ext | apply Ext.drew | (refine ext_setCell ?_ hcw _)), .inr ⟨Hno.out, ⟨0, 0, 0, 0, []⟩, _, _, _, rfl⟩⟩
      | false =>
        have Hv := Lib.hid (Hval.out rfl)
        clear Hval Hbad
        rw [Hcy.out] at Hv
        by_cases hc0 : code = 0
        · subst hc0
          obtain ⟨yb, hyb⟩ : ∃ yb, bs ys = yb := ⟨_, rfl⟩
          rw [hyb] at hysz ⊢
          by_cases hlong : s.size < ys.length
          · have Hno := Lib.hid (show firstP s.data.toList = none by
              rw [Hv.out, if_neg]
              rintro ⟨_, hp⟩
              have := hp.length_le
              have hLl : L.length = s.size := by rw [← HL.out]; rfl
              simp only at this
              omega)
            have hd1 : decide ((s.size : Int) < (yb.size : Int)) = true := by simp; omega
            have hd2 : s.size < yb.size := by omega
            clear Hv hlong
            go_wp2_with fail
            exact bodyPost_ret (v := .tuple #[entV ⟨0, 0, 0, 0, []⟩ (.slice none 0 0), .int .i64 0]) (by simp [results, Try.results85, go_sem, entV, *]) rfl ⟨by repeat (first | exact Hs8.out.ext | apply Ext.drew | (refine ext_setCell ?_ hcw _)), .inr ⟨Hno.out, ⟨0, 0, 0, 0, []⟩, _, _, _, rfl⟩⟩
          · have hd1 : decide ((s.size : Int) < (yb.size : Int)) = false := by simp; omega
            have hd2 : ¬ s.size < yb.size := by omega
            have q0 : (0 : Int) ≤ (yb.size : Int) := by omega
            have q1 : (yb.size : Int) ≤ (s.size : Int) := by omega
            have hex : s.extract 0 yb.size = bs (L.take ys.length) := by
              apply ByteArray.ext
              rw [ByteArray.data_extract]
              apply Array.ext'
              rw [Array.toList_extract, HL.out, hysz]
              show List.extract L 0 ys.length = L.take ys.length
              rw [List.extract_eq_take_drop]; simp
            rw [hysz] at hex
            by_cases hys : ys = L.take ys.length
            · have Hyes := Lib.hid (show firstP s.data.toList = some (⟨v1, v2, v3, v4, ns⟩, ys.length) by
                rw [Hv.out, if_pos ⟨rfl, by rw [List.prefix_iff_eq_take]; exact hys⟩])
              have heq : (yb.toList == (s.extract 0 ys.length).toList) = true := by rw [hex, ← hyb, ← hys]; exact beq_self_eq_true _
              clear Hv hex hys
              go_wp2_with fail
              exact bodyPost_ret (v := .tuple #[entV ⟨v1, v2, v3, v4, ns⟩ (.slice a k c), .int .i64 (ys.length : Int)]) (by simp [results, Try.results85, go_sem, entV, *]) rfl ⟨by repeat (first | exact Hs8.out.ext | apply Ext.drew | (refine ext_setCell ?_ hcw _)), .inl ⟨⟨v1, v2, v3, v4, ns⟩, ys.length, _, Hyes.out, rfl, (Rd.chg Hnm8.out (T := (· = cb)) (by repeat (first | exact Chg.refl _ _ | apply Chg.drew | (refine Chg.setCell ?_ (.inl (by simp)) _))) (fun q hq e => by omega)).mono (fun q hq _ => by omega)⟩⟩
            · have Hno := Lib.hid (show firstP s.data.toList = none by
                rw [Hv.out, if_neg]
                rintro ⟨_, hp⟩
                exact hys (List.prefix_iff_eq_take.1 hp))
              have heq : (yb.toList == (s.extract 0 ys.length).toList) = false := by
                rw [hex, beq_eq_false_iff_ne, ByteArray.toList_eq, ByteArray.toList_eq, ← hyb]
                exact hys
              clear Hv hex hys
              go_wp2_with fail
              exact bodyPost_ret (v := .tuple #[entV ⟨0, 0, 0, 0, []⟩ (.slice none 0 0), .int .i64 0]) (by simp [results, Try.results85, go_sem, entV, *]) rfl ⟨by repeat (first | exact Hs8.out.ext | apply Ext.drew | (refine ext_setCell ?_ hcw _)), .inr ⟨Hno.out, ⟨0, 0, 0, 0, []⟩, _, _, _, rfl⟩⟩
        · have Hno := Lib.hid (show firstP s.data.toList = none by
            rw [Hv.out, if_neg]
            rintro ⟨h, _⟩
            exact hc0 h)
          have hcd : (code == 0) = false := by simpa using hc0
          clear Hv
          go_wp2_with fail
          exact bodyPost_ret (v := .tuple #[entV ⟨0, 0, 0, 0, []⟩ (.slice none 0 0), .int .i64 0]) (by simp [results, Try.results85, go_sem, entV, *]) rfl ⟨by repeat (first | exact Hs8.out.ext | apply Ext.drew | (refine ext_setCell ?_ hcw _)), .inr ⟨Hno.out, ⟨0, 0, 0, 0, []⟩, _, _, _, rfl⟩⟩
end Go.Proofs.Ytfbhbnolnjcaiaa
