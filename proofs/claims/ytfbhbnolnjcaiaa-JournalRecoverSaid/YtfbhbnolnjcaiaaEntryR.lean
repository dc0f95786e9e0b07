/-
  journal.entry (33.3) reads the body of an entry as the plain law says.
  Conditions: the body is within a process's reach.
-/
import Derived.Test.YtfbhbnolnjcaiaaEncode
import Derived.Test.YtfbhbnolnjcaiaaGround
import Derived.Deep.DeepCutAuto
namespace Go.Proofs.Ytfbhbnolnjcaiaa
open Go.RowKit Go.Sort
set_option maxHeartbeats 8000000
set_option maxRecDepth 20000

theorem namesR_snoc (s : List UInt8) : ∀ (n t : Nat) (b : Bool), namesR s (n + 1) t b = ((namesR s n t b).1 ++ [(nameR s (namesR s n t b).2.1 (namesR s n t b).2.2).1], (nameR s (namesR s n t b).2.1 (namesR s n t b).2.2).2.1, (nameR s (namesR s n t b).2.1 (namesR s n t b).2.2).2.2)
  | 0, t, b => by simp [namesR]
  | n + 1, t, b => by
    have h := namesR_snoc s n (nameR s t b).2.1 (nameR s t b).2.2
    rw [show namesR s (n + 1 + 1) t b = ((nameR s t b).1 :: (namesR s (n + 1) (nameR s t b).2.1 (nameR s t b).2.2).1, (namesR s (n + 1) (nameR s t b).2.1 (nameR s t b).2.2).2.1, (namesR s (n + 1) (nameR s t b).2.1 (nameR s t b).2.2).2.2) from rfl, h]
    rfl
/-- Block eb is an entry whose names are the slice v. -/
def EntAt (w : World) (eb : Nat) (e : Ent) (v : Value) : Prop :=
  eb < w.heap.size ∧ (∀ i, w.frozen? ⟨eb, i, none⟩ = false) ∧ w.cell? ⟨eb, 0, none⟩ = some (.int .i64 e.cl) ∧ w.cell? ⟨eb, 1, none⟩ = some (.int .i64 e.op) ∧ w.cell? ⟨eb, 2, none⟩ = some (.int .i64 e.ttl) ∧ w.cell? ⟨eb, 3, none⟩ = some (.int .i64 e.tick) ∧ w.cell? ⟨eb, 4, none⟩ = some v
theorem EntAt.chg {S : Nat → Prop} {w w' : World} {eb : Nat} {e : Ent} {v : Value} (h : EntAt w eb e v) (c : Chg S w w') (hb : ¬ S eb) : EntAt w' eb e v := by
  obtain ⟨h1, h2, h3, h4, h5, h6, h7⟩ := h
  exact ⟨Nat.lt_of_lt_of_le h1 c.size, fun i => (c.frozen (p := ⟨eb, i, none⟩) h1 hb).trans (h2 i), (c.cell (p := ⟨eb, 0, none⟩) h1 hb).trans h3, (c.cell (p := ⟨eb, 1, none⟩) h1 hb).trans h4, (c.cell (p := ⟨eb, 2, none⟩) h1 hb).trans h5, (c.cell (p := ⟨eb, 3, none⟩) h1 hb).trans h6, (c.cell (p := ⟨eb, 4, none⟩) h1 hb).trans h7⟩
theorem EntAt.ext {w w' : World} {eb : Nat} {e : Ent} {v : Value} (h : EntAt w eb e v) (x : Ext w w') : EntAt w' eb e v := h.chg (x.chg (fun _ => False)) (fun h => h)
def EntryPost (body : ByteArray) (w : World) (x : Ending) (w' : World) : Prop :=
  Ext w w' ∧ ((∃ e v, entP body.data.toList = some e ∧ x = .returned (.tuple #[entV e v, .bool true]) ∧ NmsAt w' (fun k => w.heap.size ≤ k) v e.names) ∨ (entP body.data.toList = none ∧ ∃ e A n c, x = .returned (.tuple #[entV e (.slice A n c), .bool false])))
theorem und_names : Try.prog.underlying 29 = some (.slice 68) := by kernel_rfl
theorem info_name : (Try.prog.info? 68).map (fun i => (i.zero, i.size, i.bytes)) = some (some (.agg #[.string ⟨#[]⟩, .string ⟨#[]⟩, .string ⟨#[]⟩]), 3, 48) := by kernel_rfl
theorem rd_name (w : World) (x y z : ByteArray) : Rd (w.alloc (.cells #[.string x, .string y, .string z] 68)) (fun _ => True) 3 (.slice (some ⟨w.heap.size, 0, none⟩) 1 1) 1 [.string x, .string y, .string z] := by
  have h1 : (w.alloc (.cells #[.string x, .string y, .string z] 68)).heap[w.heap.size]? = some (.cells #[.string x, .string y, .string z] 68) := heap_alloc_new w _
  refine ⟨by simp, _, _, rfl, Nat.le_refl _, by unfold maxLen; omega, fun _ => ⟨_, _, rfl, trivial, (Array.getElem?_eq_some_iff.1 h1).1, fun j u hu => ?_⟩⟩
  simp only [World.cell?, h1]
  rw [Nat.zero_add, ← hu]
  simp
/-- What lies there while the numbers are read. -/
structure NSt (w w' : World) (cb rb : Nat) (body : ByteArray) (t : Nat) (b : Bool) : Prop where
  rdr : RdrAt w' rb body t b
  res : EntAt w' cb ⟨0, 0, 0, 0, []⟩ (.slice none 0 0)
  ext : Ext w w'
  le : t ≤ body.size
theorem NSt.num {w w1 w2 : World} {cb rb t t' : Nat} {body : ByteArray} {b b' : Bool} {v : Int} {e : Ending} (h : NSt w w1 cb rb body t b) (hn : numR body.data.toList t b = (v, t', b')) (hne : cb ≠ rb) (hge : w.heap.size ≤ rb) (hp : NumPost rb body t b w1 e w2) :
    e = .returned (.int .i64 v) ∧ NSt w w2 cb rb body t' b' := by
  unfold NumPost at hp
  have hle := numR_le (s := body.data.toList) (t := t) (b := b) h.le
  rw [hn] at hp hle
  obtain ⟨h1, h2, h3⟩ := hp
  exact ⟨h1, h2, h.res.chg h3 hne, h.ext.chg_new h3 (fun i hi => by subst hi; exact hge), hle.1⟩
theorem NSt.alloc {w w1 : World} {cb rb t : Nat} {body : ByteArray} {b : Bool} (h : NSt w w1 cb rb body t b) (o : Obj) : NSt w (w1.alloc o) cb rb body t b :=
  ⟨h.rdr.ext ((Ext.refl _).alloc o), h.res.ext ((Ext.refl _).alloc o), h.ext.alloc o, h.le⟩
theorem NSt.text {w w1 w2 : World} {cb rb t t' : Nat} {body : ByteArray} {b b' : Bool} {v : List UInt8} {e : Ending} (h : NSt w w1 cb rb body t b) (hn : textR body.data.toList t b = (v, t', b')) (hne : cb ≠ rb) (hge : w.heap.size ≤ rb) (hp : TextPost rb body t b w1 e w2) :
    e = .returned (.string (bs v)) ∧ NSt w w2 cb rb body t' b' ∧ Chg (· = rb) w1 w2 := by
  unfold TextPost at hp
  have hle := textR_le (s := body.data.toList) (t := t) (b := b) h.le
  rw [hn] at hp hle
  obtain ⟨h1, h2, h3⟩ := hp
  exact ⟨h1, ⟨h2, h.res.chg h3 hne, h.ext.chg_new h3 (fun i hi => by subst hi; exact hge), hle.1⟩, h3⟩
theorem NSt.drew {w w1 : World} {cb rb t : Nat} {body : ByteArray} {b : Bool} (h : NSt w w1 cb rb body t b) : NSt w w1.drew cb rb body t b := ⟨h.rdr, h.res, h.ext.drew, h.le⟩
theorem Chg.grownBy {rb : Nat} {a b : World} (c : Chg (· = rb) a b) : a.grownBy b (some rb) :=
  ⟨c.os, c.tape, c.output, c.size, fun k hk hne => c.block k hk (fun e => hne (by rw [e]))⟩
theorem own_far {rb B z n : Nat} {a b : World} {e : TypeId} {v : Value} {xs : List Value} (h : a.ownsRow B e z v n xs) (c : Chg (· = rb) a b) (hb : rb < B) : b.ownsRow B e z v n xs :=
  h.kept c.grownBy (by
    cases hv : v.ownBlock with
    | none => exact .inl rfl
    | some k => exact .inr (by have := (h.lt k hv).1; simp; omega))
/-- What lies there while the names are read. -/
structure ESt (w w' : World) (cb rb eb B : Nat) (body : ByteArray) (e : Ent) (t0 : Nat) (b0 : Bool) (k : Nat) (v : Value) : Prop where
  num : ∃ ns t b, namesR body.data.toList k t0 b0 = (ns, t, b) ∧ NSt w w' cb rb body t b ∧ w'.ownsRow B 68 3 v k (nmsCells ns)
  ent : EntAt w' eb e v
  big : B ≤ w'.heap.size
set_option maxRecDepth 100000
theorem entry_any (body : ByteArray) (hs : body.size ≤ 140737488355328) (w : World) : Calls Try.prog 111 #[.string body] w (EntryPost body w) := by
  obtain ⟨L, hL⟩ : ∃ L, body.data.toList = L := ⟨_, rfl⟩
  obtain ⟨v1, t1, b1, h1⟩ : ∃ v t b, numR L 0 false = (v, t, b) := ⟨_, _, _, rfl⟩
  obtain ⟨v2, t2, b2, h2⟩ : ∃ v t b, numR L t1 b1 = (v, t, b) := ⟨_, _, _, rfl⟩
  obtain ⟨v3, t3, b3, h3⟩ : ∃ v t b, numR L t2 b2 = (v, t, b) := ⟨_, _, _, rfl⟩
  obtain ⟨v4, t4, b4, h4⟩ : ∃ v t b, numR L t3 b3 = (v, t, b) := ⟨_, _, _, rfl⟩
  obtain ⟨v5, t5, b5, h5⟩ : ∃ v t b, numR L t4 b4 = (v, t, b) := ⟨_, _, _, rfl⟩
  have hhead : headR L = ⟨v1, v2, v3, v4, v5, t5, b5⟩ := by unfold headR; simp only [h1, h2, h3, h4, h5]
  rw [← hL] at h1 h2 h3 h4 h5
  have H1 := Lib.hid h1
  have H2 := Lib.hid h2
  have H3 := Lib.hid h3
  have H4 := Lib.hid h4
  have H5 := Lib.hid h5
  have Hhead := Lib.hid hhead
  have HL := Lib.hid hL
  clear h1 h2 h3 h4 h5 hhead hL
  have hst0 : NSt w ((w.alloc (.cells #[.int .i64 0, .int .i64 0, .int .i64 0, .int .i64 0, .slice none 0 0] 103)).alloc (.cells #[.string body, .int .i64 0, .bool false] 165)) w.heap.size (w.heap.size + 1) body 0 false := by
    refine ⟨⟨by simp, fun i => by go_simp, by go_simp, by go_simp, by go_simp⟩, ⟨by simp; omega, fun i => by go_simp, by go_simp, by go_simp, by go_simp, by go_simp, by go_simp⟩, ((Ext.refl w).alloc _).alloc _, by omega⟩
  have Hs0 := Lib.hid hst0
  clear hst0
  obtain ⟨cb, hcb⟩ : ∃ cb, w.heap.size = cb := ⟨_, rfl⟩
  rw [hcb] at Hs0
  have hne : cb ≠ cb + 1 := by omega
  have hge : w.heap.size ≤ cb + 1 := by omega
  go_enter Try.func111, Try.ntmps111
  go_wp2_with fail
  refine (number_any (cb + 1) body 0 false (by omega) hs _ Hs0.out.rdr).mono ?_
  intro x w1 hp
  obtain ⟨rfl, hs1⟩ := Hs0.out.num H1.out hne hge hp
  have Hs1 := Lib.hid hs1
  clear hp hs1 Hs0
  go_wp2_with fail
  refine (number_any (cb + 1) body t1 b1 Hs1.out.le hs _ Hs1.out.rdr).mono ?_
  intro x w2 hp
  obtain ⟨rfl, hs2⟩ := Hs1.out.num H2.out hne hge hp
  have Hs2 := Lib.hid hs2
  clear hp hs2 Hs1
  go_wp2_with fail
  refine (number_any (cb + 1) body t2 b2 Hs2.out.le hs _ Hs2.out.rdr).mono ?_
  intro x w3 hp
  obtain ⟨rfl, hs3⟩ := Hs2.out.num H3.out hne hge hp
  have Hs3 := Lib.hid hs3
  clear hp hs3 Hs2
  go_wp2_with fail
  refine (number_any (cb + 1) body t3 b3 Hs3.out.le hs _ Hs3.out.rdr).mono ?_
  intro x w4 hp
  obtain ⟨rfl, hs4⟩ := Hs3.out.num H4.out hne hge hp
  have Hs4 := Lib.hid (hs4.alloc (.cells #[.int .i64 v1, .int .i64 v2, .int .i64 v3, .int .i64 v4, .slice none 0 0] 103))
  have He4 := Lib.hid (show EntAt (w4.alloc (.cells #[.int .i64 v1, .int .i64 v2, .int .i64 v3, .int .i64 v4, .slice none 0 0] 103)) w4.heap.size ⟨v1, v2, v3, v4, []⟩ (.slice none 0 0) from ⟨by simp, fun i => by go_simp, by go_simp, by go_simp, by go_simp, by go_simp, by go_simp⟩)
  have hz4 : cb + 1 < w4.heap.size := hs4.rdr.1
  clear hp hs4 Hs3
  go_wp2_with fail
  refine (number_any (cb + 1) body t4 b4 Hs4.out.le hs _ Hs4.out.rdr).mono ?_
  intro x w5 hp
  obtain ⟨rfl, hs5⟩ := Hs4.out.num H5.out hne hge hp
  have Hs5 := Lib.hid hs5
  have He5 := Lib.hid (He4.out.chg (S := (· = cb + 1)) (by unfold NumPost at hp; exact hp.2.2) (by omega))
  obtain ⟨eb, heb⟩ : ∃ eb, w4.heap.size = eb := ⟨_, rfl⟩
  rw [heb] at He5
  clear hp hs5 Hs4 He4
  by_cases hn5 : 1 ≤ v5 ∧ v5 ≤ 16
  · obtain ⟨n1, n2⟩ := hn5
    obtain ⟨n, rfl⟩ : ∃ n : Nat, v5 = (n : Int) := ⟨v5.toNat, by omega⟩
    have hwf : (decide ((1 : Int) ≤ (n : Int)) && decide ((n : Int) ≤ 16)) = true := by simp; omega
    go_wp2_with (go_at_call 126; refine (within_any _ _ _ _).mono ?_; rintro e' w' ⟨rfl, rfl⟩; rw [hwf])
    have hB : eb < w5.heap.size := He5.out.1
    have Hest := Lib.hid (show ESt w w5 cb (cb + 1) eb w5.heap.size body ⟨v1, v2, v3, v4, []⟩ t5 b5 0 (.slice none 0 0) from ⟨⟨[], t5, b5, rfl, Hs5.out, World.ownsRow_nil _ _ _ _⟩, He5.out, Nat.le_refl _⟩)
    obtain ⟨B, hBe⟩ : ∃ B, w5.heap.size = B := ⟨_, rfl⟩
    rw [hBe] at Hest hB
    have hcB : cb + 1 < eb := by omega
    clear Hs5 He5 hBe
    go_loopw [26] (fun o wr => ∃ k : Nat, k ≤ n ∧ o = .int .i64 (k : Int) ∧ ∃ v, ESt w wr cb (cb + 1) eb B body ⟨v1, v2, v3, v4, []⟩ t5 b5 k v) (fun o _ => n - (intOf o).toNat)
    case atStart => exact ⟨0, by omega, rfl, _, Hest.out⟩
    case round =>
      clear Hest
      obtain ⟨k, hk, rfl, v, ⟨ns, t, b, hns, hst, hown⟩, hent, hbig⟩ := hrel
      obtain ⟨a, c, rfl⟩ := own_shape hown
      have Hns := Lib.hid hns
      have Hst := Lib.hid hst
      have Hown := Lib.hid hown
      have Hent := Lib.hid hent
      clear hns hst hown
      by_cases hlt : k < n
      · have hd : decide ((k : Int) < (n : Int)) = true := by simpa using hlt
        obtain ⟨x1, s1, d1, g1⟩ : ∃ v t' b', textR L t b = (v, t', b') := ⟨_, _, _, rfl⟩
        obtain ⟨x2, s2, d2, g2⟩ : ∃ v t' b', textR L s1 d1 = (v, t', b') := ⟨_, _, _, rfl⟩
        obtain ⟨x3, s3, d3, g3⟩ : ∃ v t' b', textR L s2 d2 = (v, t', b') := ⟨_, _, _, rfl⟩
        have Hname := Lib.hid (show nameR L t b = (⟨bs x1, bs x2, bs x3⟩, s3, d3) by unfold nameR; simp only [g1, g2, g3])
        rw [← HL.out] at g1 g2 g3
        have G1 := Lib.hid g1
        have G2 := Lib.hid g2
        have G3 := Lib.hid g3
        clear g1 g2 g3
        obtain ⟨_, _, _, _, _, _, p4⟩ := hent
        go_wp2_with fail
        refine wp_region_last (S := fun w' => w'.cell? ⟨eb, 4, none⟩ = some (.slice a k c)) 12 12 (by rfl) (by decide) (by kernel_rfl) (by kernel_rfl) ?_ (fun hHeld => ?_)
        · go_keep
        refine wpAnyH_take (i := 0) (oi := _) (v := ?_) rfl (by kernel_rfl) (by kernel_rfl) (by kernel_rfl) (fun _ _ _ h => h) (Or.inl ⟨by rfl, ?_⟩) (by assumption) ?_; rotate_left; (focus ((intro w hSw; (try dsimp only at hSw); go_simp); (first | done | (with_reducible rfl)))); (try simp only [Act.put]); (try simp only [List.setIfInBounds_toArray])
        refine wpAnyH_take (i := 1) (oi := _) (v := ?_) rfl (by kernel_rfl) (by kernel_rfl) (by kernel_rfl) (fun _ _ _ h => h) (Or.inl ⟨by rfl, ?_⟩) (by assumption) ?_; rotate_left; (focus ((intro w hSw; (try dsimp only at hSw); go_simp); (first | done | (with_reducible rfl)))); (try simp only [Act.put]); (try simp only [List.setIfInBounds_toArray])
        refine wpAnyH_take (i := 2) (oi := _) (v := ?_) rfl (by kernel_rfl) (by kernel_rfl) (by kernel_rfl) (fun _ _ _ h => h) (Or.inl ⟨by rfl, ?_⟩) (by assumption) ?_; rotate_left; (focus ((intro w hSw; (try dsimp only at hSw); go_simp); (first | done | (with_reducible rfl)))); (try simp only [Act.put]); (try simp only [List.setIfInBounds_toArray])
        refine wpAnyH_take (i := 4) (oi := _) (v := ?_) rfl (by kernel_rfl) (by kernel_rfl) (by kernel_rfl) (fun _ _ _ h => h) (Or.inl ⟨by rfl, ?_⟩) (by assumption) ?_; rotate_left; (focus ((intro w hSw; (try dsimp only at hSw); go_simp); (first | done | (with_reducible rfl)))); (try simp only [Act.put]); (try simp only [List.setIfInBounds_toArray])
        refine wpAnyH_take (i := 6) (oi := _) (v := ?_) rfl (by kernel_rfl) (by kernel_rfl) (by kernel_rfl) (fun _ _ _ h => h) (Or.inl ⟨by rfl, ?_⟩) (by assumption) ?_; rotate_left; (focus ((intro w hSw; (try dsimp only at hSw); go_simp); (first | done | (with_reducible rfl)))); (try simp only [Act.put]); (try simp only [List.setIfInBounds_toArray])
        refine wpAnyH_ready (rs := [3]) (by kernel_rfl) (by simp) ?_; refine AllReadyH.cons (o := _) rfl (fun K hK => ?_) AllReadyH.nil; go_simp
        refine (text_any (cb + 1) body t b Hst.out.le hs _ Hst.out.drew.rdr).mono ?_
        intro x w6 hp
        obtain ⟨rfl, hs6, hc6⟩ := Hst.out.drew.text G1.out hne hge hp
        have hbig := Nat.le_trans hbig hc6.size
        have Hs6 := Lib.hid hs6
        have He6 := Lib.hid (Hent.out.chg (w := wr.drew) hc6 (by omega))
        have Ho6 := Lib.hid (own_far (a := wr.drew) Hown.out.drew hc6 (by omega))
        have p4 := He6.out.2.2.2.2.2.2
        clear hp hs6 hc6 Hst Hent Hown
        (try go_wp2_with fail); refine hK.out _ _ ?_ (fun hHeld => ?_); (focus ((try dsimp only); (first | done | go_keep))); clear hK K; try simp only [Act.put, List.setIfInBounds_toArray, List.set_cons_zero, List.set_cons_succ]
        refine wpAnyH_ready (rs := [5]) (by kernel_rfl) (by simp) ?_; refine AllReadyH.cons (o := _) rfl (fun K hK => ?_) AllReadyH.nil; go_simp
        refine (text_any (cb + 1) body s1 d1 Hs6.out.le hs _ Hs6.out.rdr).mono ?_
        intro x w7 hp
        obtain ⟨rfl, hs7, hc7⟩ := Hs6.out.text G2.out hne hge hp
        have hbig := Nat.le_trans hbig hc7.size
        have Hs7 := Lib.hid hs7
        have He7 := Lib.hid (He6.out.chg hc7 (by omega))
        have Ho7 := Lib.hid (own_far Ho6.out hc7 (by omega))
        have p4 := He7.out.2.2.2.2.2.2
        clear hp hs7 hc7 Hs6 He6 Ho6
        (try go_wp2_with fail); refine hK.out _ _ ?_ (fun hHeld => ?_); (focus ((try dsimp only); (first | done | go_keep))); clear hK K; try simp only [Act.put, List.setIfInBounds_toArray, List.set_cons_zero, List.set_cons_succ]
        refine wpAnyH_ready (rs := [7]) (by kernel_rfl) (by simp) ?_; refine AllReadyH.cons (o := _) rfl (fun K hK => ?_) AllReadyH.nil; go_simp
        refine (text_any (cb + 1) body s2 d2 Hs7.out.le hs _ Hs7.out.rdr).mono ?_
        intro x w8 hp
        obtain ⟨rfl, hs8, hc8⟩ := Hs7.out.text G3.out hne hge hp
        have hbig := Nat.le_trans hbig hc8.size
        have Hs8 := Lib.hid hs8
        have He8 := Lib.hid (He7.out.chg hc8 (by omega))
        have Ho8 := Lib.hid (own_far Ho7.out hc8 (by omega))
        have p4 := He8.out.2.2.2.2.2.2
        clear hp hs8 hc8 Hs7 He7 Ho7
        (try go_wp2_with fail); refine hK.out _ _ ?_ (fun hHeld => ?_); (focus ((try dsimp only); (first | done | go_keep))); clear hK K; try simp only [Act.put, List.setIfInBounds_toArray, List.set_cons_zero, List.set_cons_succ]
        refine wpAnyH_take (i := 8) (oi := _) (v := ?_) rfl (by kernel_rfl) (by kernel_rfl) (by kernel_rfl) (fun _ _ _ h => h) (Or.inl ⟨by rfl, ?_⟩) (by assumption) ?_; rotate_left; (focus ((intro w hSw; (try dsimp only at hSw); go_simp); (first | done | (with_reducible rfl)))); (try simp only [Act.put]); (try simp only [List.setIfInBounds_toArray])
        refine wpAnyH_ready (rs := [9]) (by kernel_rfl) (by simp) ?_; refine AllReadyH.cons (o := _) rfl (fun K hK => ?_) AllReadyH.nil; go_simp
        have hxn : Ext w8 (w8.alloc (.cells #[.string (bs x1), .string (bs x2), .string (bs x3)] 68)) := (Ext.refl w8).alloc _
        have Hs9 := Lib.hid (Hs8.out.alloc (.cells #[.string (bs x1), .string (bs x2), .string (bs x3)] 68))
        have He9 := Lib.hid (He8.out.ext hxn)
        have Ho9 := Lib.hid (Ho8.out.alloc (.cells #[.string (bs x1), .string (bs x2), .string (bs x3)] 68))
        have hrl := rd_name w8 (bs x1) (bs x2) (bs x3)
        have p4 := He9.out.2.2.2.2.2.2
        have hbz : B ≤ (w8.alloc (.cells #[.string (bs x1), .string (bs x2), .string (bs x3)] 68)).heap.size := by simp; omega
        clear Hs8 He8 Ho8
        (try go_wp2_with fail); refine hK.out _ _ ?_ (fun hHeld => ?_); (focus ((try dsimp only); (first | done | go_keep))); clear hK K; try simp only [Act.put, List.setIfInBounds_toArray, List.set_cons_zero, List.set_cons_succ]
        refine wpAnyH_ready (rs := [10]) (by kernel_rfl) (by simp) ?_
        refine AllReadyH.cons (o := _) rfl (fun K hK => ?_) AllReadyH.nil
        obtain ⟨i0, hi, hz0, hz1, hz2⟩ := info_parts info_name
        refine step_append_rd _ (by rfl) (.tmp 29) (.tmp 37) 29 (by rfl) B 68 i0 _ 3 48 und_names hi hz0 hz1 hz2 (by rfl) (by decide) (.slice a k c) k (nmsCells ns) (by rfl) Ho9.out (fun _ => True) (.slice (some ⟨w8.heap.size, 0, none⟩) 1 1) 1 [.string (bs x1), .string (bs x2), .string (bs x3)] (by rfl) hrl (by simp [Value.oneCell']) (by unfold maxLen; omega) (by omega) hbz ?_
        intro v' w10 ha
        have hcg : Chg (fun i => B ≤ i) (w8.alloc (.cells #[.string (bs x1), .string (bs x2), .string (bs x3)] 68)) w10 := (Chg.refl _ _).grown ha.grown (fun k hk => .inl (Ho9.out.lt k hk).1)
        have hs10 : NSt w w10 cb (cb + 1) body s3 d3 := ⟨Hs9.out.rdr.chg hcg (by omega), Hs9.out.res.chg hcg (by omega), Hs9.out.ext.chg_new hcg (fun i hi => by omega), Hs9.out.le⟩
        have He10 := Lib.hid (He9.out.chg hcg (by omega))
        have Hs10 := Lib.hid hs10
        have Ho10 := Lib.hid ha.own
        have hbig := Nat.le_trans hbz hcg.size
        have p4 := He10.out.2.2.2.2.2.2
        clear ha hcg hs10 Hs9 He9 Ho9 hrl hbz
        (try go_wp2_with fail); refine hK.out _ _ ?_ (fun hHeld => ?_); (focus ((try dsimp only); (first | done | go_keep))); clear hK K; (try simp only [Act.put]); (try simp only [List.setIfInBounds_toArray])
        refine wpAnyH_take (i := 11) (oi := _) (v := ?_) rfl (by kernel_rfl) (by kernel_rfl) (by kernel_rfl) (fun _ _ _ h => h) (Or.inl ⟨by rfl, ?_⟩) (by assumption) ?_; rotate_left; (focus ((intro w hSw; (try dsimp only at hSw); go_simp); (first | done | (with_reducible rfl)))); (try simp only [Act.put]); (try simp only [List.setIfInBounds_toArray])
        refine wpAnyH_done (by kernel_rfl) ?_ _
        obtain ⟨a2, c2, hv2⟩ := own_shape Ho10.out
        subst hv2
        obtain ⟨e1, e2, e3, e4, e5, e6, e7⟩ := He10.out
        refine afterZ_wp (o := _) rfl (by rfl) ?_
        go_simp
        have hcf : Chg (· = eb) w10 (w10.setCell ⟨eb, 4, none⟩ (.slice a2 (k + 1) c2)) := (Chg.refl (· = eb) w10).setCell (p := ⟨eb, 4, none⟩) (.inl rfl) _
        have Hend := Lib.hid (show ESt w (w10.setCell ⟨eb, 4, none⟩ (.slice a2 (k + 1) c2)) cb (cb + 1) eb B body ⟨v1, v2, v3, v4, []⟩ t5 b5 (k + 1) (.slice a2 (k + 1) c2) from
          ⟨⟨ns ++ [⟨bs x1, bs x2, bs x3⟩], s3, d3, by rw [namesR_snoc, Hns.out, HL.out]; simp only; rw [Hname.out], ⟨Hs10.out.rdr.chg hcf (by omega), Hs10.out.res.chg hcf (by omega), Hs10.out.ext.chg_new hcf (fun i hi => by subst hi; omega), Hs10.out.le⟩, by rw [nmsCells_append]; exact own_far Ho10.out hcf (by omega)⟩, ⟨by simpa [World.setCell] using e1, fun i => by go_simp, by go_simp, by go_simp, by go_simp, by go_simp, by go_simp⟩, by simpa [World.setCell] using hbig⟩)
        clear hcf e1 e2 e3 e4 e5 e6 e7 Hs10 He10 Ho10
        go_wp2_with fail
        go_roundw
        case rel => exact ⟨k + 1, by omega, by go_num, _, Hend.out⟩
        case measure => simp [intOf]; omega
      · have hd : decide ((k : Int) < (n : Int)) = false := by simp; omega
        have hkn : k = n := by omega
        subst hkn
        obtain ⟨e1, e2, e3, e4, e5, e6, e7⟩ := hent
        obtain ⟨r1, r2, r3, r4, r5⟩ := Hst.out.rdr
        obtain ⟨z1, z2, z3, z4, z5, z6, z7⟩ := Hst.out.res
        have hcw : w.heap.size ≤ cb := by omega
        have hne2 : ¬ cb = eb := by omega
        have hne3 : ¬ cb = cb + 1 := by omega
        have Hnm := Lib.hid (show NmsAt wr (fun i => B ≤ i) (.slice a k c) ns from by
          have hl : ns.length = k := by have := namesR_len body.data.toList k t5 b5; rw [Hns.out] at this; exact this
          unfold NmsAt
          rw [hl]
          exact Rd.of_own Hown.out fun q hq => (Hown.out.lt q hq).1)
        cases b with
        | true =>
          have Hres := Lib.hid (show entP body.data.toList = none by rw [HL.out]; unfold entP; rw [Hhead.out]; simp only; rw [if_pos ⟨n1, n2⟩, Int.toNat_natCast]; rw [← HL.out, Hns.out]; rfl)
          go_wp2_with fail
          go_region
          go_wp2_with fail
          exact bodyPost_ret (v := .tuple #[entV ⟨v1, v2, v3, v4, ns⟩ (.slice a k c), .bool false]) (by simp [results, Try.results111, go_sem, entV, *]) rfl ⟨by repeat (first | exact Hst.out.ext | apply Ext.drew | (refine ext_setCell ?_ hcw _)), .inr ⟨Hres.out, _, _, _, _, rfl⟩⟩
        | false =>
          have Hres := Lib.hid (show entP body.data.toList = some ⟨v1, v2, v3, v4, ns⟩ by rw [HL.out]; unfold entP; rw [Hhead.out]; simp only; rw [if_pos ⟨n1, n2⟩, Int.toNat_natCast]; rw [← HL.out, Hns.out]; rfl)
          go_wp2_with fail
          go_region
          go_wp2_with fail
          exact bodyPost_ret (v := .tuple #[entV ⟨v1, v2, v3, v4, ns⟩ (.slice a k c), .bool true]) (by simp [results, Try.results111, go_sem, entV, *]) rfl ⟨by repeat (first | exact Hst.out.ext | apply Ext.drew | (refine ext_setCell ?_ hcw _)), .inl ⟨_, _, Hres.out, rfl, (Rd.chg Hnm.out (T := (· = cb)) (by repeat (first | exact Chg.refl _ _ | apply Chg.drew | (refine Chg.setCell ?_ (.inl (by simp)) _))) (fun q hq e => by omega)).mono (fun q hq _ => by omega)⟩⟩
  · have hwf : (decide ((1 : Int) ≤ v5) && decide (v5 ≤ 16)) = false := by simp; omega
    have Hnone := Lib.hid (show entP body.data.toList = none by rw [HL.out]; unfold entP; rw [Hhead.out]; simp only; rw [if_neg hn5])
    obtain ⟨g1, g2, c0, c1, c2, c3, c4⟩ := Hs5.out.res
    have hcw : w.heap.size ≤ cb := by omega
    clear hn5
    go_wp2_with (go_at_call 126; refine (within_any _ _ _ _).mono ?_; rintro e' w' ⟨rfl, rfl⟩; rw [hwf])
    exact bodyPost_ret (v := .tuple #[entV ⟨0, 0, 0, 0, []⟩ (.slice none 0 0), .bool false]) (by simp [results, Try.results111, go_sem, entV, *]) rfl ⟨by repeat (first | exact Hs5.out.ext | (refine ext_setCell ?_ (by simp; omega) _)), .inr ⟨Hnone.out, _, _, _, _, rfl⟩⟩
end Go.Proofs.Ytfbhbnolnjcaiaa
