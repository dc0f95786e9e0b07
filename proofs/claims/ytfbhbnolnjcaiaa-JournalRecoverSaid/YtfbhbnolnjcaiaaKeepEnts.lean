/-
  keep.Entries makes at most five small entries.
  Conditions: the list reads as integers.
-/
import Derived.Test.YtfbhbnolnjcaiaaKeepNames
namespace Go.Proofs.Ytfbhbnolnjcaiaa
open Go.RowKit Go.Sort
set_option maxHeartbeats 4000000
set_option maxRecDepth 20000

theorem info_intE : (Try.prog.info? 3).map (fun i => (i.zero, i.size, i.bytes)) = some (some (.int .i64 0), 1, 8) := by kernel_rfl
theorem und_intsE : Try.prog.underlying 33 = some (.slice 3) := by kernel_rfl
theorem own_chg {S : Nat → Prop} {w w' : World} {base : Nat} {e : TypeId} {size : Nat} {v : Value} {n : Nat} {xs : List Value} (h : w.ownsRow base e size v n xs) (c : Chg S w w') (hS : ∀ k, v.ownBlock = some k → ¬ S k) : w'.ownsRow base e size v n xs := by
  refine ⟨h.1, ?_⟩
  rcases h.2 with hn | ⟨g, cap, cur, rfl, hb, hgg, rest⟩
  · exact .inl hn
  · refine .inr ⟨g, cap, cur, rfl, hb, ?_, rest⟩
    rw [c.block g (Array.getElem?_eq_some_iff.1 hgg).1 (hS g rfl)]
    exact hgg
theorem rowIn_of_ints {w : World} {base : Nat} {e : TypeId} {A : Option Addr} {n c : Nat} {zs : List Int} (h : w.ownsRow base e 1 (.slice A n c) n (zs.map (Value.int .i64))) (hz : ∀ z ∈ zs, I64 z) : RowIn w A n := by
  have hr := Rd.of_own h (S := fun _ => True) fun _ _ => trivial
  have hl := hr.len
  obtain ⟨h1, A', c', e1, h2, h3, h4⟩ := hr
  simp only [Value.slice.injEq] at e1
  obtain ⟨rfl, _, rfl⟩ := e1
  refine ⟨hl, fun hn => ?_⟩
  obtain ⟨g, o, rfl, _, hg, hc⟩ := h4 hn
  refine ⟨_, rfl, hg, fun j hj => ?_⟩
  have hjl : j < zs.length := by simp at h1; omega
  refine ⟨zs[j], ?_, hz _ (List.getElem_mem hjl)⟩
  have := hc j (.int .i64 zs[j]) (by simp [hjl])
  have e : (⟨g, o, none⟩ : Addr).add j = ⟨g, o + j, none⟩ := by unfold Addr.add; by_cases hj : j = 0 <;> simp [hj]
  rw [e]; exact this
theorem rd_int (w : World) (z : Int) : Rd (w.alloc (.cells #[.int .i64 z] 3)) (fun _ => True) 1 (.slice (some ⟨w.heap.size, 0, none⟩) 1 1) 1 [.int .i64 z] := by
  have h1 : (w.alloc (.cells #[.int .i64 z] 3)).heap[w.heap.size]? = some (.cells #[.int .i64 z] 3) := heap_alloc_new w _
  refine ⟨by simp, _, _, rfl, Nat.le_refl _, by unfold maxLen; omega, fun _ => ⟨_, _, rfl, trivial, (Array.getElem?_eq_some_iff.1 h1).1, fun j u hu => ?_⟩⟩
  simp only [World.cell?, h1]
  rw [Nat.zero_add, ← hu]
  simp
/-- A small entry. -/
structure SmallE (e : Ent) : Prop where
  cl : 0 ≤ e.cl ∧ e.cl ≤ 63
  op : 1 ≤ e.op ∧ e.op ≤ 6
  ttl : 0 ≤ e.ttl ∧ e.ttl ≤ 9
  tick : 0 ≤ e.tick ∧ e.tick ≤ 15
  names : Small e.names
  len : e.names.length ≤ 4
/-- The list under way: the row is the call's own, all lies between the source's block and Z. -/
structure KSt (w w' : World) (v : Value) (ps : List (Ent × Value)) (Z : Nat) : Prop where
  own : w'.ownsRow (w.heap.size + 1) 103 5 v ps.length (entsCells ps)
  nms : ∀ p ∈ ps, NmsAt w' (fun b => w.heap.size + 1 ≤ b ∧ b < Z ∧ v.ownBlock ≠ some b) p.2 p.1.names
  ext : Ext w w'
  top : ∀ k, v.ownBlock = some k → k < Z
  sm : ∀ p ∈ ps, SmallE p.1
  le : w.heap.size + 1 ≤ Z
  big : Z ≤ w'.heap.size
theorem KSt.chg {S : Nat → Prop} {w w1 w2 : World} {v : Value} {ps : List (Ent × Value)} {Z : Nat} (h : KSt w w1 v ps Z) (c : Chg S w1 w2) (hS : ∀ i, S i → i = w.heap.size ∨ Z ≤ i) : KSt w w2 v ps Z := by
  have hle := h.le
  refine ⟨own_chg h.own c fun k hk hs => ?_, fun p hp => Rd.chg (h.nms p hp) c fun k hk hs => ?_, h.ext.chg_new c fun i hi => ?_, h.top, h.sm, h.le, Nat.le_trans h.big c.size⟩
  · have h1 := (h.own.lt k hk).1
    have h2 := h.top k hk
    have h3 := hS k hs
    omega
  · have h3 := hS k hs
    omega
  · have h3 := hS i hi
    omega
theorem KSt.up {w w1 : World} {v : Value} {ps : List (Ent × Value)} {Z : Nat} (h : KSt w w1 v ps Z) : KSt w w1 v ps w1.heap.size :=
  ⟨h.own, fun p hp => Rd.mono (h.nms p hp) fun _ hk hl => ⟨hk.1, hl, hk.2.2⟩, h.ext, fun k hk => Nat.lt_of_lt_of_le (h.top k hk) h.big, h.sm, Nat.le_trans h.le h.big, Nat.le_refl _⟩
theorem KSt.more {w w1 w3 : World} {v v' : Value} {ps : List (Ent × Value)} {Z : Nat} {e : Ent} {u : Value} (h : KSt w w1 v ps Z) (he : SmallE e) (hu : NmsAt w1 (fun k => Z ≤ k) u e.names)
    (ha : Appended w1 (w.heap.size + 1) 103 5 v (ps.length + 1) (entsCells ps ++ entCells (e, u)) v' w3) : KSt w w3 v' (ps ++ [(e, u)]) w3.heap.size := by
  have hcg : Chg (fun b => v.ownBlock = some b) w1 w3 := (Chg.refl _ _).grown ha.grown (fun k hk => .inl hk)
  have hown1 : ∀ k, v.ownBlock = some k → w.heap.size + 1 ≤ k ∧ k < w1.heap.size := h.own.lt
  have hle := h.le
  have hkeep : ∀ {S : Nat → Prop} {x : Value} {l : List Nm}, NmsAt w1 S x l → (∀ b, S b → b < w1.heap.size → w.heap.size + 1 ≤ b ∧ v.ownBlock ≠ some b) → NmsAt w3 (fun b => w.heap.size + 1 ≤ b ∧ b < w3.heap.size ∧ v'.ownBlock ≠ some b) x l := fun {S x l} hn hS => by
    have h1 : NmsAt w1 (fun b => (w.heap.size + 1 ≤ b ∧ v.ownBlock ≠ some b) ∧ b < w1.heap.size) x l := Rd.mono hn fun k hk hkl => ⟨hS k hk hkl, hkl⟩
    refine Rd.mono (Rd.chg h1 hcg fun k hk e => hk.1.2 e) fun k hk hk3 => ⟨hk.1.1, hk3, fun e => ?_⟩
    rcases ha.at_ with h2 | h2
    · rw [h2] at e; exact hk.1.2 e
    · rw [h2] at e
      simp only [Option.some.injEq] at e
      omega
  have hsz := hcg.size
  refine ⟨?_, fun p hp => ?_, h.ext.chg_new hcg fun i hi => by have := (hown1 i hi).1; omega, fun k hk => (ha.own.lt k hk).2, fun p hp => ?_, by have := h.big; omega, Nat.le_refl _⟩
  · have := ha.own
    rw [entsCells_append]
    simpa [entsCells] using this
  · rcases List.mem_append.1 hp with hp | hp
    · exact hkeep (h.nms p hp) fun b hb _ => ⟨hb.1, hb.2.2⟩
    · simp only [List.mem_singleton] at hp
      subst hp
      exact hkeep hu fun b hb _ => ⟨by omega, fun e => by have := h.top b e; omega⟩
  · rcases List.mem_append.1 hp with hp | hp
    · exact h.sm p hp
    · simp only [List.mem_singleton] at hp
      subst hp
      exact he
/-- The inner loop's list of choices, beside the entry in block eb. -/
structure KIn (w w' : World) (v : Value) (ps : List (Ent × Value)) (eb : Nat) (e : Ent) (c : Value) (j : Nat) : Prop where
  st : KSt w w' v ps eb
  ent : EntAt w' eb e (.slice none 0 0)
  src : Src w.heap.size w' w.heap.size
  row : ∃ zs : List Int, zs.length = j ∧ (∀ z ∈ zs, I64 z) ∧ w'.ownsRow (eb + 1) 3 1 c j (zs.map (Value.int .i64))
  lt : eb + 1 ≤ w'.heap.size
def KRel (w : World) (v : Value) (n t : Nat) (wr : World) : Prop := ∃ ps, ps.length + n ≤ 5 ∧ n ≤ 5 ∧ t + 3 * n ≤ 15 ∧ KSt w wr v ps wr.heap.size ∧ Src w.heap.size wr w.heap.size
theorem KSt.ents {w w1 : World} {v : Value} {ps : List (Ent × Value)} {Z : Nat} (h : KSt w w1 v ps Z) : EntsAt w1 (fun k => w.heap.size ≤ k) v ps :=
  ⟨Rd.of_own h.own fun q hq => by have := (h.own.lt q hq).1; omega, fun p hp => Rd.mono (h.nms p hp) fun k hk _ => by omega⟩
def KEntsPost (w : World) (e : Ending) (w' : World) : Prop :=
  ∃ v ps, e = .returned v ∧ ps.length ≤ 5 ∧ KSt w w' v ps w'.heap.size
/-- The entry's lifetime is set, or not. -/
def KTtl (w : World) (v : Value) (ps : List (Ent × Value)) (eb cl op : Nat) (t : Int) (wr : World) : Prop := KSt w wr v ps eb ∧ eb < wr.heap.size ∧ Src w.heap.size wr w.heap.size ∧ ∃ ttl : Nat, ttl ≤ 9 ∧ EntAt wr eb ⟨cl, 1 + (op : Int), ttl, t, []⟩ (.slice none 0 0)
set_option maxRecDepth 100000
theorem kents_any (a : Option Addr) (len cap : Nat) (w : World) (hrow : RowIn w a len) : Calls Try.prog 49 #[.slice a len cap] w (KEntsPost w) := by
  have hsrc : Src w.heap.size (w.alloc (.cells #[.slice a len cap, .int .i64 0] 124)) w.heap.size := src_of_rowIn hrow (Ext.refl w)
  have hst : KSt w (w.alloc (.cells #[.slice a len cap, .int .i64 0] 124)) (.slice none 0 0) [] (w.heap.size + 1) := ⟨World.ownsRow_nil _ _ _ _, by simp, (Ext.refl w).alloc _, by simp [Value.ownBlock], by simp, by omega, by simp⟩
  have Hsrc := Lib.hid hsrc
  have Hst := Lib.hid hst
  clear hsrc hst hrow
  go_enter Try.func49, Try.ntmps49
  go_wp2_with fail
  refine (from_any _ _ _ _).mono ?_
  rintro e w0 ⟨rfl, rfl⟩
  go_wp2_with fail
  refine (next_any _ _ (by omega) (by omega) _ _ Hsrc.out).mono ?_
  rintro e w1 ⟨n0, hn0, rfl, hsrc1, hc1, hz1⟩
  have Hrel0 := Lib.hid (show KRel w (.slice none 0 0) n0 0 w1 from ⟨[], by simp; omega, by omega, by omega, (Hst.out.chg hc1 (fun i hi => .inl hi)).up, hsrc1⟩)
  clear hsrc1 hc1 hz1 Hsrc Hst
  go_wp2_with fail
  go_loopw [4, 5, 6] (fun v o x wr => ∃ n t : Nat, o = .int .i64 (t : Int) ∧ x = .int .i64 (n : Int) ∧ KRel w v n t wr) (fun _ _ x _ => (intOf x).toNat)
  case atStart => exact ⟨n0, 0, rfl, rfl, Hrel0.out⟩
  case round =>
    clear Hrel0 hn0
    obtain ⟨n, t, rfl, rfl, ps, hlen, hn5, ht, hst, hsrc⟩ := hrel
    obtain ⟨va, vc, rfl⟩ := own_shape hst.own
    have Hst := Lib.hid hst
    have Hsrc := Lib.hid hsrc
    clear hst hsrc
    by_cases hn : 0 < n
    · have hd : decide ((0 : Int) < (n : Int)) = true := by simpa using hn
      go_wp2_with fail
      refine (next_any _ _ (by omega) (by omega) _ _ Hsrc.out).mono ?_
      rintro e w2 ⟨d, hd4, rfl, hsrc2, hc2, hz2⟩
      have Hst2 := Lib.hid (Hst.out.chg hc2 (fun i hi => .inl hi)).up
      have Hsrc2 := Lib.hid hsrc2
      clear hsrc2 hc2 hz2 Hst Hsrc
      have q1 : (0 : Int) ≤ (t : Int) := by omega
      have q2 : (t : Int) + (d : Int) ≤ 18 := by omega
      have q3 : (0 : Int) ≤ (d : Int) := by omega
      go_wp2_with fail
      refine (next_any _ _ (by omega) (by omega) _ _ Hsrc2.out).mono ?_
      rintro e w3 ⟨cl, hcl, rfl, hsrc3, hc3, hz3⟩
      have Hst3 := Lib.hid (Hst2.out.chg hc3 (fun i hi => .inl hi)).up
      have Hsrc3 := Lib.hid hsrc3
      clear hsrc3 hc3 hz3 Hst2 Hsrc2
      go_wp2_with fail
      refine (next_any _ _ (by omega) (by omega) _ _ Hsrc3.out).mono ?_
      rintro e w4 ⟨op, hop, rfl, hsrc4, hc4, hz4⟩
      have q4 : (0 : Int) ≤ (op : Int) := by omega
      have q5 : 1 + (op : Int) ≤ 6 := by omega
      have Hst4 := Lib.hid (Hst3.out.chg hc4 (fun i hi => .inl hi)).up
      have Hsrc4 := Lib.hid hsrc4
      obtain ⟨eb, heb⟩ : ∃ eb, w4.heap.size = eb := ⟨_, rfl⟩
      have Hcut := Lib.hid (show KTtl w (.slice va ps.length vc) ps eb cl op ((t : Int) + (d : Int)) (w4.alloc (.cells #[.int .i64 (cl : Int), .int .i64 (1 + (op : Int)), .int .i64 0, .int .i64 ((t : Int) + (d : Int)), .slice none 0 0] 103)) from by
        rw [← heb]
        refine ⟨Hst4.out.chg ((Chg.refl (fun _ => False) _).alloc _) (fun i hi => hi.elim), by simp, Hsrc4.out.alloc _, 0, by omega, by simp, fun i => by go_simp, by go_simp, by go_simp, by go_simp, by go_simp, by go_simp⟩)
      have hzb : w.heap.size + 1 ≤ eb := by have := Hst4.out.le; omega
      clear hsrc4 hc4 hz4 Hst3 Hsrc3 Hst4 Hsrc4
      go_upto_region 9 with fail
      obtain ⟨W, hW⟩ : ∃ W, w4.alloc (.cells #[.int .i64 (cl : Int), .int .i64 (1 + (op : Int)), .int .i64 0, .int .i64 ((t : Int) + (d : Int)), .slice none 0 0] 103) = W := ⟨_, rfl⟩
      rw [hW] at Hcut
      rw [hW]
      clear hW heb
      go_cut [36] from 14 to 56 (fun x wx => x = .bool (decide (op = 0 ∨ op = 2)) ∧ wx = W)
      case first =>
        obtain ⟨hst, hlt, hsrc, ttl, httl, hent⟩ := Hcut.out
        obtain ⟨e1, e2, e3, e4, e5, e6, e7⟩ := hent
        simp only at e3 e4 e5 e6 e7
        clear hst hsrc
        have b1 : (((1 : Int) + (op : Int) == 1) = true ∧ decide (op = 0 ∨ op = 2) = true) ∨ (((1 : Int) + (op : Int) == 1) = false ∧ ((1 : Int) + (op : Int) == 3) = decide (op = 0 ∨ op = 2) ∧ ¬ op = 0) := by
          by_cases h0 : op = 0
          · exact .inl (by subst h0; decide)
          · refine .inr ⟨by simp; omega, ?_, h0⟩
            by_cases h2 : op = 2
            · subst h2; decide
            · rw [decide_eq_false (by omega)]; simp; omega
        rcases b1 with ⟨b1, b2⟩ | ⟨b1, b2, b3⟩
        all_goals
          have B2 := Lib.hid b2
          go_wp2_with fail
          go_meet
          exact ⟨by first | rfl | (rw [B2.out]; done) | (simp [b3]; done), rfl⟩
      case rest =>
      obtain ⟨rfl, rfl⟩ := hcut
      go_upto_if 36 with fail
      go_cut [7] from 14 to 56 (fun x wx => x = .pointer (some ⟨eb, 0, none⟩) ∧ KTtl w (.slice va ps.length vc) ps eb cl op ((t : Int) + (d : Int)) wx)
      case first =>
        obtain ⟨hst, hlt, hsrc, ttl, httl, hent⟩ := Hcut.out
        by_cases hop2 : op = 0 ∨ op = 2
        · have hset : ∀ (w5 : World) (x : Nat), x < 9 → KSt w w5 (.slice va ps.length vc) ps eb → eb < w5.heap.size → Src w.heap.size w5 w.heap.size → EntAt w5 eb ⟨cl, 1 + (op : Int), ttl, (t : Int) + (d : Int), []⟩ (.slice none 0 0) → KTtl w (.slice va ps.length vc) ps eb cl op ((t : Int) + (d : Int)) (w5.setCell ⟨eb, 2, none⟩ (.int .i64 (1 + (x : Int)))) := by
            intro w5 x hx h1 h2 h3 h4
            obtain ⟨f1, f2, f3, f4, f5, f6, f7⟩ := h4
            have hcg : Chg (· = eb) w5 (w5.setCell ⟨eb, 2, none⟩ (.int .i64 (1 + (x : Int)))) := Chg.setCell (S := (· = eb)) (p := ⟨eb, 2, none⟩) (Chg.refl _ w5) (.inl rfl) _
            refine ⟨h1.chg hcg (fun i hi => .inr (by omega)), Nat.lt_of_lt_of_le h2 hcg.size, h3.chg hcg (by omega) (by intro j hj; omega), 1 + x, by omega, Nat.lt_of_lt_of_le h2 hcg.size, fun i => ?_, ?_, ?_, ?_, ?_, ?_⟩ <;> go_simp
          have Hset := Lib.hid hset
          have Hent := Lib.hid hent
          have Hst := Lib.hid hst
          have Hsrc := Lib.hid hsrc
          clear hset Hcut hent hst hsrc
          have hdec : decide (op = 0 ∨ op = 2) = true := decide_eq_true hop2
          rw [hdec]
          clear hop2 hdec
          go_wp2_with fail
          refine (next_any _ _ (by omega) (by omega) _ _ Hsrc.out).mono ?_
          rintro e w5 ⟨x, hx, rfl, hsrc5, hc5, hz5⟩
          have Hst5 := Lib.hid (Hst.out.chg hc5 (fun i hi => .inl hi))
          have Hsrc5 := Lib.hid hsrc5
          have Hent5 := Lib.hid (Hent.out.chg hc5 (by omega))
          obtain ⟨_, hfz, _, _, hc52, _, _⟩ := Hent5.out
          simp only at hc52
          have p0 : (0 : Int) ≤ (x : Int) := by omega
          clear hsrc5 hc5 hz5 Hst Hsrc Hent
          go_wp2_with fail
          go_meet
          exact ⟨rfl, Hset.out w5 x (by omega) Hst5.out Hent5.out.1 Hsrc5.out Hent5.out⟩
        · have hdec : decide (op = 0 ∨ op = 2) = false := decide_eq_false hop2
          rw [hdec]
          clear hop2 hdec hst hsrc hent
          go_wp2_with fail
          go_meet
          exact ⟨rfl, Hcut.out⟩
      case rest =>
        obtain ⟨rfl, hst, hlt, hsrc, ttl, httl, hent⟩ := hcut
        clear Hcut
        have Hin0 := Lib.hid (show KIn w wc (.slice va ps.length vc) ps eb ⟨cl, 1 + (op : Int), ttl, (t : Int) + (d : Int), []⟩ (.slice none 0 0) 0 from ⟨hst, hent, hsrc, ⟨[], rfl, by simp, World.ownsRow_nil _ _ _ _⟩, hlt⟩)
        clear hst hlt hsrc hent
        go_wp2_with fail
        go_loopw [8, 9] (fun c o wr => ∃ j : Nat, j ≤ 4 ∧ o = .int .i64 (j : Int) ∧ KIn w wr (.slice va ps.length vc) ps eb ⟨cl, 1 + (op : Int), ttl, (t : Int) + (d : Int), []⟩ c j) (fun _ o _ => 4 - (intOf o).toNat)
        case atStart => exact ⟨0, by omega, rfl, Hin0.out⟩
        case round =>
          clear Hin0
          obtain ⟨j, hj4, rfl, hst, hent, hsrc, ⟨zs, hzl, hzi, hown⟩, hbig⟩ := hrel
          obtain ⟨a1, c1, rfl⟩ := own_shape hown
          have Hst := Lib.hid hst
          have Hent := Lib.hid hent
          have Hsrc := Lib.hid hsrc
          have Hown := Lib.hid hown
          have Hzi := Lib.hid hzi
          have Hzl := Lib.hid hzl
          clear hst hent hsrc hown hzi hzl
          by_cases hj : j < 4
          · have hd2 : decide ((j : Int) < 4) = true := by simp; omega
            go_wp2_with fail
            refine (next_any _ _ (by omega) (by omega) _ _ Hsrc.out).mono ?_
            rintro e w6 ⟨z, hz, rfl, hsrc6, hc6, hz6⟩
            have ho6 := own_chg Hown.out hc6 (fun k hk => by have := (Hown.out.lt k hk).1; omega)
            have Hst6 := Lib.hid (Hst.out.chg hc6 (fun i hi => .inl hi))
            have Hent6 := Lib.hid (Hent.out.chg hc6 (by omega))
            have Hsrc6 := Lib.hid hsrc6
            have hbig6 := Nat.le_trans hbig hc6.size
            obtain ⟨i0, hi, hz0, hz1, hz2⟩ := info_parts info_intE
            clear hsrc6 hc6 hz6 Hst Hent Hsrc
            have hbz : eb + 1 ≤ (w6.alloc (.cells #[.int .i64 (z : Int)] 3)).heap.size := by simp; omega
            go_wp2_with (at_builtin; refine wpList_append_rd _ rfl _ _ 33 rfl (eb + 1) 3 i0 _ 1 8 und_intsE hi hz0 hz1 hz2 rfl (by decide) _ j _ rfl (ho6.alloc _) (fun _ => True) _ 1 _ rfl (rd_int w6 (z : Int)) (by simp [Value.oneCell']) (by unfold maxLen; omega) (by omega) hbz ?_; intro v2 w7 ha; obtain ⟨a3, c3, hv3⟩ := own_shape ha.own; subst hv3)
            have ho7 := ha.own
            have hx7 : Chg (fun j => eb + 1 ≤ j) w6 w7 := ((Chg.refl _ w6).alloc (.cells #[.int .i64 (z : Int)] 3)).grown ha.grown (fun j hj => .inl (ho6.lt j hj).1)
            have Hin := Lib.hid (show KIn w w7 (.slice va ps.length vc) ps eb ⟨cl, 1 + (op : Int), ttl, (t : Int) + (d : Int), []⟩ (.slice a3 (j + 1) c3) (j + 1) from by
              refine ⟨Hst6.out.chg hx7 (fun i hi => .inr (by omega)), Hent6.out.chg hx7 (by omega), Hsrc6.out.chg hx7 (by omega) (by intro j hj; omega), ⟨zs ++ [(z : Int)], by simp [Hzl.out], fun y hy => ?_, by simpa using ho7⟩, Nat.le_trans hbig6 hx7.size⟩
              rcases List.mem_append.1 hy with h | h
              · exact Hzi.out y h
              · simp at h; subst h; unfold I64; omega)
            clear ho7 ha hx7 ho6 Hst6 Hent6 Hsrc6
            go_roundw
            case rel => exact ⟨j + 1, by omega, by go_num, Hin.out⟩
            case measure => simp [intOf]; omega
          · have hd2 : decide ((j : Int) < 4) = false := by simp; omega
            have hrow := rowIn_of_ints Hown.out Hzi.out
            go_wp2_with fail
            refine (names_any _ _ _ _ hrow).mono ?_
            rintro e w8 ⟨u, ns, rfl, hsmall, hl4, hnm, hx8⟩
            obtain ⟨A, c2, rfl⟩ := hnm.shape
            have hent8 := Hent.out.ext hx8
            obtain ⟨f1, f2, f3, f4, f5, f6, f7⟩ := hent8
            simp only at f3 f4 f5 f6 f7
            have hst8 := Hst.out.chg (hx8.chg (fun _ => False)) (fun i hi => hi.elim)
            have hsrc8 := Hsrc.out.ext hx8
            obtain ⟨W, hW⟩ : ∃ W, w8.setCell ⟨eb, 4, none⟩ (.slice A ns.length c2) = W := ⟨_, rfl⟩
            have hcg9 : Chg (· = eb) w8 W := hW ▸ Chg.setCell (S := (· = eb)) (p := ⟨eb, 4, none⟩) (Chg.refl _ w8) (.inl rfl) _
            have hst9 := (hst8.chg hcg9 (fun i hi => .inr (by omega))).chg ((Chg.refl (fun _ => False) W).alloc (.cells #[.int .i64 (cl : Int), .int .i64 (1 + (op : Int)), .int .i64 (ttl : Int), .int .i64 ((t : Int) + (d : Int)), .slice A ns.length c2] 103)) (fun i hi => hi.elim)
            have hsrc9 := (hsrc8.chg hcg9 (by omega) (by intro j hj; omega)).alloc (.cells #[.int .i64 (cl : Int), .int .i64 (1 + (op : Int)), .int .i64 (ttl : Int), .int .i64 ((t : Int) + (d : Int)), .slice A ns.length c2] 103)
            have hz8 := hx8.size
            have hnm9 : NmsAt (W.alloc (.cells #[.int .i64 (cl : Int), .int .i64 (1 + (op : Int)), .int .i64 (ttl : Int), .int .i64 ((t : Int) + (d : Int)), .slice A ns.length c2] 103)) (fun k => eb ≤ k) (.slice A ns.length c2) ns := Rd.mono ((Rd.chg hnm hcg9 (fun k hk e => by omega)).ext ((Ext.refl W).alloc _)) fun k hk _ => by omega
            have hrl := rd_ent W cl (1 + (op : Int)) ttl ((t : Int) + (d : Int)) (.slice A ns.length c2)
            have hz9 := hcg9.size
            have hbz : w.heap.size + 1 ≤ (W.alloc (.cells #[.int .i64 (cl : Int), .int .i64 (1 + (op : Int)), .int .i64 (ttl : Int), .int .i64 ((t : Int) + (d : Int)), .slice A ns.length c2] 103)).heap.size := by simp; omega
            have hzW : W.heap.size = w8.heap.size := by rw [← hW]; simp [World.setCell]
            rw [hzW] at hrl
            subst hW
            have Hst9 := Lib.hid hst9
            have Hsrc9 := Lib.hid hsrc9
            have Hnm9 := Lib.hid hnm9
            have Hrl := Lib.hid hrl
            have Hbz := Lib.hid hbz
            have HzW := Lib.hid hzW
            obtain ⟨i0, hi, hz0, hz1, hz2⟩ := info_parts info_ent
            clear hnm hx8 Hst Hsrc Hent Hown Hzi Hzl hrow hst8 hsrc8 hst9 hsrc9 hcg9 hnm9 hrl hbz hz8 hz9 hzW
            go_wp2_with (at_builtin; refine wpList_append_rd _ rfl _ _ 56 rfl (w.heap.size + 1) 103 i0 _ 5 56 und_ents hi hz0 hz1 hz2 rfl (by decide) _ ps.length _ rfl Hst9.out.own (fun _ => True) _ 1 _ rfl Hrl.out (by simp [Value.oneCell']) (by unfold maxLen; omega) (by omega) Hbz.out ?_; intro v' w9 ha; obtain ⟨a3, c3, hv3⟩ := own_shape ha.own; subst hv3)
            have hcg := (Chg.refl (fun b => (Value.slice va ps.length vc).ownBlock = some b) _).grown ha.grown (fun k hk => .inl hk)
            have hend := Hst9.out.more (e := ⟨cl, 1 + (op : Int), ttl, (t : Int) + (d : Int), ns⟩) (u := .slice A ns.length c2) ⟨⟨by simp only; omega, by simp only; omega⟩, ⟨by simp only; omega, by simp only; omega⟩, ⟨by simp only; omega, by simp only; omega⟩, ⟨by simp only; omega, by simp only; omega⟩, hsmall, hl4⟩ Hnm9.out ha
            have hse := Hsrc9.out.chg hcg (fun e => by have := (Hst9.out.own.lt _ e).1; omega) (fun j hj e => by have := (Hst9.out.own.lt _ e).1; omega)
            have Hend := Lib.hid hend
            have Hse := Lib.hid hse
            clear ha hcg hend hse Hst9 Hsrc9 Hnm9 Hrl Hbz
            go_wp2_with fail
            go_roundw
            case rel => exact ⟨n - 1, t + d, by go_num, by go_num, _, by simp; omega, by omega, by omega, Hend.out, Hse.out⟩
            case measure => simp [intOf]; omega
    · have hd : decide ((0 : Int) < (n : Int)) = false := by simp; omega
      go_wp2_with fail
      go_ret
      exact ⟨_, ps, rfl, by omega, Hst.out⟩
end Go.Proofs.Ytfbhbnolnjcaiaa
