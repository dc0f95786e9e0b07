/-
  calls of chapter 28 makes at most thirty calls of Do.
  Conditions: the list reads as integers.
-/
import Derived.Test.YtfbhbnolnjcaiaaKeepEnts
import Derived.Deep.DeepCutAuto
namespace Go.Proofs.Ytfbhbnolnjcaiaa
open Go.RowKit Go.Sort
set_option maxHeartbeats 4000000
set_option maxRecDepth 20000

theorem info_call : (Try.prog.info? 49).map (fun i => (i.zero, i.size, i.bytes)) = some (some (.agg #[.int .i64 0, .int .i64 0, .int .i64 0, .int .i64 0, .slice none 0 0]), 5, 56) := by kernel_rfl
theorem und_calls : Try.prog.underlying 46 = some (.slice 49) := by kernel_rfl
theorem rd_call (w : World) (a b c d : Int) (v : Value) : Rd (w.alloc (.cells #[.int .i64 a, .int .i64 b, .int .i64 c, .int .i64 d, v] 49)) (fun _ => True) 5 (.slice (some ⟨w.heap.size, 0, none⟩) 1 1) 1 [.int .i64 a, .int .i64 b, .int .i64 c, .int .i64 d, v] := by
  have h1 : (w.alloc (.cells #[.int .i64 a, .int .i64 b, .int .i64 c, .int .i64 d, v] 49)).heap[w.heap.size]? = some (.cells #[.int .i64 a, .int .i64 b, .int .i64 c, .int .i64 d, v] 49) := heap_alloc_new w _
  refine ⟨by simp, _, _, rfl, Nat.le_refl _, by unfold maxLen; omega, fun _ => ⟨_, _, rfl, trivial, (Array.getElem?_eq_some_iff.1 h1).1, fun j u hu => ?_⟩⟩
  simp only [World.cell?, h1]
  rw [Nat.zero_add, ← hu]
  simp
/-- The numbers of a call: client, operation, lifetime, tick. -/
structure CalN (cl op ttl tk : Int) : Prop where
  c0 : 0 ≤ cl
  c1 : cl ≤ 2
  o0 : 1 ≤ op
  o1 : op ≤ 7
  t0 : 0 ≤ ttl
  t1 : ttl ≤ 12
  k0 : 0 ≤ tk
  k1 : tk ≤ 1073741824
/-- A call of Do (its lifetime and its tick as an entry's). -/
structure CalOk (e : Ent) : Prop where
  num : CalN e.cl e.op e.ttl e.tick
  names : Small e.names
  len : e.names.length ≤ 4
/-- The list under way: the row is the call's own, all lies between the source's block and Z. -/
structure CSt (w w' : World) (v : Value) (ps : List (Ent × Value)) (Z : Nat) : Prop where
  own : w'.ownsRow (w.heap.size + 1) 49 5 v ps.length (entsCells ps)
  nms : ∀ p ∈ ps, NmsAt w' (fun b => w.heap.size + 1 ≤ b ∧ b < Z ∧ v.ownBlock ≠ some b) p.2 p.1.names
  ext : Ext w w'
  top : ∀ k, v.ownBlock = some k → k < Z
  sm : ∀ p ∈ ps, CalOk p.1
  le : w.heap.size + 1 ≤ Z
  big : Z ≤ w'.heap.size
theorem CSt.chg {S : Nat → Prop} {w w1 w2 : World} {v : Value} {ps : List (Ent × Value)} {Z : Nat} (h : CSt w w1 v ps Z) (c : Chg S w1 w2) (hS : ∀ i, S i → i = w.heap.size ∨ Z ≤ i) : CSt w w2 v ps Z := by
  have hle := h.le
  refine ⟨own_chg h.own c fun k hk hs => ?_, fun p hp => Rd.chg (h.nms p hp) c fun k hk hs => ?_, h.ext.chg_new c fun i hi => ?_, h.top, h.sm, h.le, Nat.le_trans h.big c.size⟩
  · have h1 := (h.own.lt k hk).1
    have h2 := h.top k hk
    have h3 := hS k hs
    omega
  · have h3 := hS k hs
    omega
  · have h3 := hS i hi
    omega
theorem CSt.up {w w1 : World} {v : Value} {ps : List (Ent × Value)} {Z : Nat} (h : CSt w w1 v ps Z) : CSt w w1 v ps w1.heap.size :=
  ⟨h.own, fun p hp => Rd.mono (h.nms p hp) fun _ hk hl => ⟨hk.1, hl, hk.2.2⟩, h.ext, fun k hk => Nat.lt_of_lt_of_le (h.top k hk) h.big, h.sm, Nat.le_trans h.le h.big, Nat.le_refl _⟩
theorem CSt.more {w w1 w3 : World} {v v' : Value} {ps : List (Ent × Value)} {Z : Nat} {e : Ent} {u : Value} (h : CSt w w1 v ps Z) (he : CalOk e) (hu : NmsAt w1 (fun k => Z ≤ k) u e.names)
    (ha : Appended w1 (w.heap.size + 1) 49 5 v (ps.length + 1) (entsCells ps ++ entCells (e, u)) v' w3) : CSt w w3 v' (ps ++ [(e, u)]) w3.heap.size := by
  have hcg : Chg (fun b => v.ownBlock = some b) w1 w3 := (Chg.refl _ _).grown ha.grown (fun k hk => .inl hk)
  have hown1 : ∀ k, v.ownBlock = some k → w.heap.size + 1 ≤ k ∧ k < w1.heap.size := h.own.lt
  have hle := h.le
  have hkeep : ∀ {S : Nat → Prop} {x : Value} {l : List Nm}, NmsAt w1 S x l → (∀ b, S b → b < w1.heap.size → w.heap.size + 1 ≤ b ∧ v.ownBlock ≠ some b) → NmsAt w3 (fun b => w.heap.size + 1 ≤ b ∧ b < w3.heap.size ∧ v'.ownBlock ≠ some b) x l := fun {S x l} hn hS => by
    have h1 : NmsAt w1 (fun b => (w.heap.size + 1 ≤ b ∧ v.ownBlock ≠ some b) ∧ b < w1.heap.size) x l := Rd.mono hn fun k hk hkl => ⟨hS k hk hkl, hkl⟩
    refine Rd.mono (Rd.chg h1 hcg fun k hk e => hk.1.2 e) fun k hk hk3 => ⟨hk.1.1, hk3, fun e => ?_⟩
    rcases ha.at_ with h2 | h2
    · rw [h2] at e; exact hk.1.2 e
    · rw [h2] at e
      simp only [Option.some.injEq] at e
      omega
  have hsz := hcg.size
  refine ⟨?_, fun p hp => ?_, h.ext.chg_new hcg fun i hi => by have := (hown1 i hi).1; omega, fun k hk => (ha.own.lt k hk).2, fun p hp => ?_, by have := h.big; omega, Nat.le_refl _⟩
  · have := ha.own
    rw [entsCells_append]
    simpa [entsCells] using this
  · rcases List.mem_append.1 hp with hp | hp
    · exact hkeep (h.nms p hp) fun b hb _ => ⟨hb.1, hb.2.2⟩
    · simp only [List.mem_singleton] at hp
      subst hp
      exact hkeep hu fun b hb _ => ⟨by omega, fun e => by have := h.top b e; omega⟩
  · rcases List.mem_append.1 hp with hp | hp
    · exact h.sm p hp
    · simp only [List.mem_singleton] at hp
      subst hp
      exact he
theorem CSt.ents {w w1 : World} {v : Value} {ps : List (Ent × Value)} {Z : Nat} (h : CSt w w1 v ps Z) : EntsAt w1 (fun k => w.heap.size ≤ k) v ps :=
  ⟨Rd.of_own h.own fun q hq => by have := (h.own.lt q hq).1; omega, fun p hp => Rd.mono (h.nms p hp) fun k hk _ => by omega⟩
theorem left_srcM (b B : Nat) (w : World) (hs : Src B w b) : Calls Try.prog 37 #[.pointer (some ⟨b, 0, none⟩)] w fun e w' => (∃ v, e = .returned (.bool v)) ∧ Src B w' b ∧ Chg (· = b) w w' := by
  have Hs := Lib.hid hs
  obtain ⟨a, len, cap, i, hb, hB, hl, hi, hx⟩ := hs
  have hc0 : w.cell? ⟨b, 0, none⟩ = some (.slice a len cap) := by simp [World.cell?, hb]
  have hc1 : w.cell? ⟨b, 1, none⟩ = some (.int .i64 (i : Int)) := by simp [World.cell?, hb]
  clear hb hx
  go_enter Try.func37, Try.ntmps37
  go_wp2_with fail
  go_region
  all_goals
    go_wp2
    go_ret
    exact ⟨⟨_, rfl⟩, (by have hs := Hs.out; repeat (first | assumption | apply Src.drew)), (by have hx := Chg.refl (· = b) w; repeat (first | assumption | apply Chg.drew))⟩
/-- A call under way, in block eb, with these names. -/
def CMid (w : World) (v : Value) (ps : List (Ent × Value)) (eb : Nat) (ns : List Nm) (u : Value) (wx : World) : Prop :=
  CSt w wx v ps eb ∧ eb + 1 ≤ wx.heap.size ∧ w.heap.size + 1 ≤ eb ∧ Src w.heap.size wx w.heap.size ∧ ∃ cl op ttl tk : Int, CalN cl op ttl tk ∧ EntAt wx eb ⟨cl, op, ttl, tk, ns⟩ u
theorem CMid.next {w wx w2 : World} {v u : Value} {ps : List (Ent × Value)} {eb : Nat} {ns : List Nm} (h : CMid w v ps eb ns u wx) (hs : Src w.heap.size w2 w.heap.size) (hc : Chg (· = w.heap.size) wx w2) : CMid w v ps eb ns u w2 := by
  obtain ⟨h1, h2, h3, h4, cl, op, ttl, tk, h5, h6⟩ := h
  exact ⟨h1.chg hc (fun i hi => .inl hi), Nat.le_trans h2 hc.size, h3, hs, cl, op, ttl, tk, h5, h6.chg hc (by omega)⟩
theorem CMid.chg {S : Nat → Prop} {w wx w2 : World} {v u : Value} {ps : List (Ent × Value)} {eb : Nat} {ns : List Nm} (h : CMid w v ps eb ns u wx) (hc : Chg S wx w2) (hS : ∀ i, S i → eb + 1 ≤ i) : CMid w v ps eb ns u w2 := by
  obtain ⟨h1, h2, h3, h4, cl, op, ttl, tk, h5, h6⟩ := h
  exact ⟨h1.chg hc (fun i hi => .inr (by have := hS i hi; omega)), Nat.le_trans h2 hc.size, h3, h4.chg hc (fun e => by have := hS _ e; omega) (by intro j hj e; have := hS _ e; omega), cl, op, ttl, tk, h5, h6.chg hc fun e => by have := hS _ e; omega⟩
theorem CMid.ext {w wx w2 : World} {v u : Value} {ps : List (Ent × Value)} {eb : Nat} {ns : List Nm} (h : CMid w v ps eb ns u wx) (hx : Ext wx w2) : CMid w v ps eb ns u w2 := h.chg (hx.chg fun _ => False) fun _ h => h.elim
/-- A number of the call is set. -/
theorem cmid_set {w wx : World} {v u2 : Value} {ps : List (Ent × Value)} {eb k : Nat} {ns2 : List Nm} {cl op ttl tk : Int} {y : Value} (h : CSt w wx v ps eb ∧ eb + 1 ≤ wx.heap.size ∧ w.heap.size + 1 ≤ eb ∧ Src w.heap.size wx w.heap.size) (hn : CalN cl op ttl tk)
    (he : EntAt (wx.setCell ⟨eb, k, none⟩ y) eb ⟨cl, op, ttl, tk, ns2⟩ u2) : CMid w v ps eb ns2 u2 (wx.setCell ⟨eb, k, none⟩ y) := by
  obtain ⟨h1, h2, h3, h4⟩ := h
  have hc : Chg (· = eb) wx (wx.setCell ⟨eb, k, none⟩ y) := (Chg.refl (· = eb) wx).setCell (p := ⟨eb, k, none⟩) (.inl rfl) _
  exact ⟨h1.chg hc (fun i hi => .inr (by omega)), Nat.le_trans h2 hc.size, h3, h4.chg hc (by omega) (by intro j hj; omega), cl, op, ttl, tk, hn, he⟩
/-- .. beside the list of choices. -/
def CIn (w : World) (v : Value) (ps : List (Ent × Value)) (eb : Nat) (c : Value) (j : Nat) (wx : World) : Prop :=
  CMid w v ps eb [] (.slice none 0 0) wx ∧ ∃ zs : List Int, zs.length = j ∧ (∀ z ∈ zs, I64 z) ∧ wx.ownsRow (eb + 1) 3 1 c j (zs.map (Value.int .i64))
/-- .. with its names. -/
def CNam (w : World) (v : Value) (ps : List (Ent × Value)) (eb : Nat) (wx : World) : Prop :=
  ∃ ns u, CMid w v ps eb ns u wx ∧ NmsAt wx (fun k => eb + 1 ≤ k) u ns ∧ Small ns ∧ ns.length ≤ 4
theorem CNam.next {w wx w2 : World} {v : Value} {ps : List (Ent × Value)} {eb : Nat} (h : CNam w v ps eb wx) (hs : Src w.heap.size w2 w.heap.size) (hc : Chg (· = w.heap.size) wx w2) : CNam w v ps eb w2 := by
  obtain ⟨ns, u, h1, h2, h3, h4⟩ := h
  have hb := h1.2.2.1
  exact ⟨ns, u, h1.next hs hc, Rd.chg h2 hc fun k hk e => by omega, h3, h4⟩
theorem NmsAt.takeM {w : World} {S : Nat → Prop} {A : Option Addr} {n c : Nat} {l : List Nm} (h : NmsAt w S (.slice A n c) l) (m : Nat) (hm : m ≤ l.length) : NmsAt w S (.slice A m c) (l.take m) := by
  obtain ⟨h1, A', c', hv, h2, h3, h4⟩ := h
  simp only [Value.slice.injEq] at hv
  obtain ⟨rfl, rfl, rfl⟩ := hv
  have hlt : (l.take m).length = m := by rw [List.length_take]; omega
  refine ⟨by rw [nmsCells_len], A, c, by rw [hlt], by omega, h3, fun h0 => ?_⟩
  obtain ⟨g, o, hA, hS, hg, hc⟩ := h4 (by omega)
  refine ⟨g, o, hA, hS, hg, fun j u hu => hc j u ?_⟩
  have hs : nmsCells l = nmsCells (l.take m) ++ nmsCells (l.drop m) := by rw [← nmsCells_append, List.take_append_drop]
  have hj := (List.getElem?_eq_some_iff.1 hu).1
  rw [hs, List.getElem?_append_left hj]; exact hu
def CRel (w : World) (v : Value) (t : Nat) (wr : World) : Prop := ∃ ps, ps.length ≤ 30 ∧ t ≤ 3 * ps.length ∧ CSt w wr v ps wr.heap.size ∧ Src w.heap.size wr w.heap.size
def CallsPost (w : World) (e : Ending) (w' : World) : Prop := ∃ v ps, e = .returned v ∧ ps.length ≤ 30 ∧ CSt w w' v ps w'.heap.size
set_option maxRecDepth 100000
theorem calls_any (a : Option Addr) (len cap : Nat) (w : World) (hrow : RowIn w a len) : Calls Try.prog 12 #[.slice a len cap] w (CallsPost w) := by
  have hsrc : Src w.heap.size (w.alloc (.cells #[.slice a len cap, .int .i64 0] 124)) w.heap.size := src_of_rowIn hrow (Ext.refl w)
  have hst : CSt w (w.alloc (.cells #[.slice a len cap, .int .i64 0] 124)) (.slice none 0 0) [] (w.heap.size + 1) := ⟨World.ownsRow_nil _ _ _ _, by simp, (Ext.refl w).alloc _, by simp [Value.ownBlock], by simp, by omega, by simp⟩
  have Hrel0 := Lib.hid (show CRel w (.slice none 0 0) 0 (w.alloc (.cells #[.slice a len cap, .int .i64 0] 124)) from ⟨[], by simp, by simp, hst.up, hsrc⟩)
  clear hsrc hst hrow
  go_enter Try.func12, Try.ntmps12
  go_wp2_with fail
  refine (from_any _ _ _ _).mono ?_
  rintro e w0 ⟨rfl, rfl⟩
  go_wp2_with fail
  go_loopw [4, 5] (fun v o wr => ∃ t : Nat, o = .int .i64 (t : Int) ∧ CRel w v t wr) (fun v _ _ => 30 - vLen v)
  case atStart => exact ⟨0, rfl, Hrel0.out⟩
  case round =>
    clear Hrel0
    obtain ⟨t, rfl, ps, hp30, ht, hst, hsrc⟩ := hrel
    obtain ⟨va, vc, rfl⟩ := own_shape hst.own
    have Hst := Lib.hid hst
    have Hsrc := Lib.hid hsrc
    clear hst hsrc
    go_wp2_with fail
    refine (left_srcM _ _ _ Hsrc.out).mono ?_
    rintro e w2 ⟨⟨bl, rfl⟩, hsrc2, hc2⟩
    have Hst2 := Lib.hid (Hst.out.chg hc2 (fun i hi => .inl hi)).up
    have Hsrc2 := Lib.hid hsrc2
    clear hsrc2 hc2 Hst Hsrc
    cases bl with
    | false =>
      go_wp2_with fail
      go_ret
      exact ⟨_, ps, rfl, hp30, Hst2.out⟩
    | true =>
      by_cases hlt : ps.length < 30
      · have hd : decide ((ps.length : Int) < 30) = true := by simp; omega
        go_wp2_with fail
        refine (next_any _ _ (by omega) (by omega) _ _ Hsrc2.out).mono ?_
        rintro e w3 ⟨d, hd, rfl, hsrc3, hc3, hz3⟩
        have Hst3 := Lib.hid (Hst2.out.chg hc3 (fun i hi => .inl hi)).up
        have Hsrc3 := Lib.hid hsrc3
        clear hsrc3 hc3 hz3 Hst2 Hsrc2
        have q1 : (0 : Int) ≤ (t : Int) := by omega
        have q2 : (t : Int) + (d : Int) ≤ 1000 := by omega
        have q3 : (0 : Int) ≤ (d : Int) := by omega
        go_wp2_with fail
        refine (next_any _ _ (by omega) (by omega) _ _ Hsrc3.out).mono ?_
        rintro e w4 ⟨cl, hcl, rfl, hsrc4, hc4, hz4⟩
        have Hst4 := Lib.hid (Hst3.out.chg hc4 (fun i hi => .inl hi)).up
        have Hsrc4 := Lib.hid hsrc4
        clear hsrc4 hc4 hz4 Hst3 Hsrc3
        go_wp2_with fail
        refine (next_any _ _ (by omega) (by omega) _ _ Hsrc4.out).mono ?_
        rintro e w5 ⟨op, hop, rfl, hsrc5, hc5, hz5⟩
        have Hst5 := Lib.hid (Hst4.out.chg hc5 (fun i hi => .inl hi)).up
        have Hsrc5 := Lib.hid hsrc5
        have q4 : (0 : Int) ≤ (op : Int) := by omega
        have q5 : 1 + (op : Int) ≤ 7 := by omega
        clear hsrc5 hc5 hz5 Hst4 Hsrc4
        obtain ⟨eb, heb⟩ : ∃ eb, w5.heap.size = eb := ⟨_, rfl⟩
        have hmid : CMid w (.slice va ps.length vc) ps eb [] (.slice none 0 0) (w5.alloc (.cells #[.int .i64 (cl : Int), .int .i64 (1 + (op : Int)), .int .i64 0, .int .i64 ((t : Int) + (d : Int)), .slice none 0 0] 49)) := by
          rw [← heb]
          refine ⟨Hst5.out.chg ((Chg.refl (fun _ => False) _).alloc _) (fun i hi => hi.elim), by simp, Hst5.out.le, Hsrc5.out.alloc _, cl, 1 + (op : Int), 0, (t : Int) + (d : Int), ⟨by omega, by omega, by omega, by omega, by omega, by omega, by omega, by omega⟩, by simp, fun i => by go_simp, by go_simp, by go_simp, by go_simp, by go_simp, by go_simp⟩
        have Hmid := Lib.hid hmid
        clear hmid Hst5 Hsrc5
        go_wp2_with fail
        refine (next_any _ _ (by omega) (by omega) _ _ Hmid.out.2.2.2.1).mono ?_
        rintro e w6 ⟨x, hx, rfl, hsrc6, hc6, hz6⟩
        have Hmid6 := Lib.hid (Hmid.out.next hsrc6 hc6)
        clear hsrc6 hc6 hz6 Hmid heb
        go_upto_if 31 with fail
        go_cut [6] from 11 to 83 (fun x wx => x = .pointer (some ⟨eb, 0, none⟩) ∧ CMid w (.slice va ps.length vc) ps eb [] (.slice none 0 0) wx)
        case first =>
          cases hx0 : ((x : Int) == 0) with
          | true =>
            obtain ⟨m1, m2, m3, m4, cl', op', ttl', tk', hn, he⟩ := Hmid6.out
            obtain ⟨f1, f2, f3, f4, f5, f6, f7⟩ := he
            simp only at f3 f4 f5 f6 f7
            have Hm := Lib.hid (show _ ∧ _ ∧ _ ∧ _ from ⟨m1, m2, m3, m4⟩)
            clear m1 m2 m3 m4
            go_wp2_with fail
            go_meet
            exact ⟨rfl, cmid_set Hm.out (cl := cl') (op := 1) (ttl := ttl') (tk := tk') ⟨hn.c0, hn.c1, by omega, by omega, hn.t0, hn.t1, hn.k0, hn.k1⟩ ⟨by simpa [World.setCell] using f1, fun i => by go_simp, by go_simp, by go_simp, by go_simp, by go_simp, by go_simp⟩⟩
          | false =>
            go_wp2_with fail
            go_meet
            exact ⟨rfl, Hmid6.out⟩
        case rest =>
        obtain ⟨rfl, hmid⟩ := hcut
        clear Hmid6
        have Hmid := Lib.hid hmid
        clear hmid
        go_upto_region 9 with fail
        go_cut [40] from 11 to 83 (fun x wx => (∃ bb, x = .bool bb) ∧ wx = wc)
        case first =>
          obtain ⟨m1, m2, m3, m4, cl', op', ttl', tk', hn, he⟩ := Hmid.out
          obtain ⟨f1, f2, f3, f4, f5, f6, f7⟩ := he
          simp only at f3 f4 f5 f6 f7
          clear m1 m2 m3 m4 hn
          have K : (op' == 1) = true ∨ ((op' == 1) = false ∧ True) := by cases h : (op' == 1) <;> simp
          rcases K with k1 | ⟨k1, _⟩
          all_goals
            go_wp2_with fail
            go_meet
            exact ⟨⟨_, rfl⟩, rfl⟩
        case rest =>
        obtain ⟨⟨bb, rfl⟩, rfl⟩ := hcut
        go_upto_if 40 with fail
        go_cut [6] from 11 to 83 (fun x wx => x = .pointer (some ⟨eb, 0, none⟩) ∧ CMid w (.slice va ps.length vc) ps eb [] (.slice none 0 0) wx)
        case first =>
          cases bb with
          | true =>
            go_wp2_with fail
            refine (next_any _ _ (by omega) (by omega) _ _ Hmid.out.2.2.2.1).mono ?_
            rintro e w7 ⟨y, hy, rfl, hsrc7, hc7, hz7⟩
            obtain ⟨m1, m2, m3, m4, cl', op', ttl', tk', hn, he⟩ := Hmid.out.next hsrc7 hc7
            obtain ⟨f1, f2, f3, f4, f5, f6, f7⟩ := he
            simp only at f3 f4 f5 f6 f7
            have Hm := Lib.hid (show _ ∧ _ ∧ _ ∧ _ from ⟨m1, m2, m3, m4⟩)
            have p0 : (0 : Int) ≤ (y : Int) := by omega
            clear m1 m2 m3 m4 hsrc7 hc7 hz7 Hmid
            go_wp2_with fail
            go_meet
            exact ⟨rfl, cmid_set Hm.out (cl := cl') (op := op') (ttl := 1 + (y : Int)) (tk := tk') ⟨hn.c0, hn.c1, hn.o0, hn.o1, by omega, by omega, hn.k0, hn.k1⟩ ⟨by simpa [World.setCell] using f1, fun i => by go_simp, by go_simp, by go_simp, by go_simp, by go_simp, by go_simp⟩⟩
          | false =>
            go_wp2_with fail
            go_meet
            exact ⟨rfl, Hmid.out⟩
        case rest =>
        obtain ⟨rfl, hmid⟩ := hcut
        clear Hmid
        have Hin0 := Lib.hid (show CIn w (.slice va ps.length vc) ps eb (.slice none 0 0) 0 _ from ⟨hmid, [], rfl, by simp, World.ownsRow_nil _ _ _ _⟩)
        clear hmid
        go_wp2_with fail
        go_loopw [7, 8] (fun c o wr => ∃ j : Nat, j ≤ 4 ∧ o = .int .i64 (j : Int) ∧ CIn w (.slice va ps.length vc) ps eb c j wr) (fun _ o _ => 4 - (intOf o).toNat)
        case atStart => exact ⟨0, by omega, rfl, Hin0.out⟩
        case round =>
          clear Hin0
          obtain ⟨j, hj4, rfl, hmid, zs, hzl, hzi, hown⟩ := hrel
          obtain ⟨a1, c1, rfl⟩ := own_shape hown
          have Hmid := Lib.hid hmid
          have Hown := Lib.hid hown
          have Hzi := Lib.hid hzi
          have Hzl := Lib.hid hzl
          have hbig := hmid.2.1
          have hbw := hmid.2.2.1
          clear hmid hown hzi hzl
          by_cases hj : j < 4
          · have hd2 : decide ((j : Int) < 4) = true := by simp; omega
            go_wp2_with fail
            refine (next_any _ _ (by omega) (by omega) _ _ Hmid.out.2.2.2.1).mono ?_
            rintro e w8 ⟨z, hz, rfl, hsrc8, hc8, hz8⟩
            have ho8 := own_chg Hown.out hc8 (fun k hk => by have := (Hown.out.lt k hk).1; omega)
            have Hmid8 := Lib.hid (Hmid.out.next hsrc8 hc8)
            have hbig8 := Nat.le_trans hbig hc8.size
            obtain ⟨i0, hi, hz0, hz1, hz2⟩ := info_parts info_intE
            clear hsrc8 hc8 hz8 Hmid
            have hbz : eb + 1 ≤ (w8.alloc (.cells #[.int .i64 (z : Int)] 3)).heap.size := by simp; omega
            go_wp2_with (at_builtin; refine wpList_append_rd _ rfl _ _ 33 rfl (eb + 1) 3 i0 _ 1 8 und_intsE hi hz0 hz1 hz2 rfl (by decide) _ j _ rfl (ho8.alloc _) (fun _ => True) _ 1 _ rfl (rd_int w8 (z : Int)) (by simp [Value.oneCell']) (by unfold maxLen; omega) (by omega) hbz ?_; intro v2 w9 ha; obtain ⟨a3, c3, hv3⟩ := own_shape ha.own; subst hv3)
            have ho9 := ha.own
            have hx9 : Chg (fun j => eb + 1 ≤ j) w8 w9 := ((Chg.refl _ w8).alloc (.cells #[.int .i64 (z : Int)] 3)).grown ha.grown (fun j hj => .inl (ho8.lt j hj).1)
            have Hin := Lib.hid (show CIn w (.slice va ps.length vc) ps eb (.slice a3 (j + 1) c3) (j + 1) w9 from ⟨Hmid8.out.chg hx9 fun i hi => hi, zs ++ [(z : Int)], by simp [Hzl.out], fun y hy => by
              rcases List.mem_append.1 hy with h | h
              · exact Hzi.out y h
              · simp at h; subst h; unfold I64; omega, by simpa using ho9⟩)
            clear ho9 ha hx9 ho8 Hmid8
            go_roundw
            case rel => exact ⟨j + 1, by omega, by go_num, Hin.out⟩
            case measure => simp [intOf]; omega
          · have hd2 : decide ((j : Int) < 4) = false := by simp; omega
            have hrow := rowIn_of_ints Hown.out Hzi.out
            go_wp2_with fail
            refine (names_any _ _ _ _ hrow).mono ?_
            rintro e w8 ⟨u, ns, rfl, hsmall, hl4, hnm, hx8⟩
            obtain ⟨A, c2, rfl⟩ := hnm.shape
            obtain ⟨m1, m2, m3, m4, cl', op', ttl', tk', hn, he⟩ := Hmid.out.ext hx8
            obtain ⟨f1, f2, f3, f4, f5, f6, f7⟩ := he
            simp only at f3 f4 f5 f6 f7
            have hcs : Chg (· = eb) w8 (w8.setCell ⟨eb, 4, none⟩ (.slice A ns.length c2)) := (Chg.refl (· = eb) w8).setCell (p := ⟨eb, 4, none⟩) (.inl rfl) _
            have hmid2 : CMid w (.slice va ps.length vc) ps eb ns (.slice A ns.length c2) (w8.setCell ⟨eb, 4, none⟩ (.slice A ns.length c2)) := cmid_set ⟨m1, m2, m3, m4⟩ hn ⟨by simpa [World.setCell] using f1, fun i => by go_simp, by go_simp, by go_simp, by go_simp, by go_simp, by go_simp⟩
            have hnam2 : NmsAt (w8.setCell ⟨eb, 4, none⟩ (.slice A ns.length c2)) (fun k => eb + 1 ≤ k) (.slice A ns.length c2) ns := Rd.mono (Rd.chg hnm hcs fun k hk e => by omega) fun k hk _ => by omega
            have Hmid2 := Lib.hid hmid2
            have Hnam2 := Lib.hid hnam2
            have Hsm := Lib.hid hsmall
            clear m1 m2 m3 m4 hnm hx8 hcs hmid2 hnam2 hsmall hrow hn
            go_upto_region 17 with fail
            obtain ⟨W, hW⟩ : ∃ W, w8.setCell ⟨eb, 4, none⟩ (.slice A ns.length c2) = W := ⟨_, rfl⟩
            rw [hW] at Hmid2 Hnam2
            rw [hW]
            clear hW f1 f2 f3 f4 f5 f6 f7 Hmid Hown Hzi Hzl
            go_cut [65] from 11 to 83 (fun x wx => (∃ bb, x = .bool bb ∧ (bb = true → 1 ≤ ns.length)) ∧ wx = W)
            case first =>
              obtain ⟨m1, m2, m3, m4, cl', op', ttl', tk', hn, he⟩ := Hmid2.out
              obtain ⟨f1, f2, f3, f4, f5, f6, f7⟩ := he
              simp only at f3 f4 f5 f6 f7
              clear m1 m2 m3 m4 hn
              have K : (op' == 7) = true ∨ ((op' == 7) = false ∧ True) := by cases h : (op' == 7) <;> simp
              rcases K with k1 | ⟨k1, _⟩
              · go_wp2_with fail
                go_meet
                exact ⟨⟨_, rfl, fun h => by simp at h; omega⟩, rfl⟩
              · go_wp2_with fail
                go_meet
                exact ⟨⟨_, rfl, fun h => by simp at h⟩, rfl⟩
            case rest =>
            obtain ⟨⟨b2, rfl, hb2⟩, rfl⟩ := hcut
            have Hb2 := Lib.hid hb2
            clear hb2
            go_upto_if 65 with fail
            go_cut [6] from 11 to 83 (fun x wx => x = .pointer (some ⟨eb, 0, none⟩) ∧ CNam w (.slice va ps.length vc) ps eb wx)
            case first =>
              cases b2 with
              | true =>
                have hl1 := Hb2.out rfl
                obtain ⟨m1, m2, m3, m4, cl', op', ttl', tk', hn, he⟩ := Hmid2.out
                obtain ⟨f1, f2, f3, f4, f5, f6, f7⟩ := he
                simp only at f3 f4 f5 f6 f7
                have Hm := Lib.hid (show _ ∧ _ ∧ _ ∧ _ from ⟨m1, m2, m3, m4⟩)
                obtain ⟨_, A', c', hv, hc1, hc2, _⟩ := id Hnam2.out
                simp only [Value.slice.injEq] at hv
                obtain ⟨rfl, _, rfl⟩ := hv
                have s0 : (0 : Int) ≤ 1 := by omega
                have s1 : (1 : Int) ≤ (c2 : Int) := by omega
                have Htk := Lib.hid (NmsAt.takeM Hnam2.out 1 hl1)
                clear m1 m2 m3 m4 hl1 hc1
                unfold maxLen at hc2
                go_wp2_with fail
                go_meet
                have hcs : Chg (· = eb) wc (wc.setCell ⟨eb, 4, none⟩ (.slice A 1 c2)) := (Chg.refl (· = eb) wc).setCell (p := ⟨eb, 4, none⟩) (.inl rfl) _
                refine ⟨rfl, ns.take 1, .slice A 1 c2, cmid_set Hm.out hn ⟨by simpa [World.setCell] using f1, fun i => by go_simp, by go_simp, by go_simp, by go_simp, by go_simp, by go_simp⟩, Rd.chg Htk.out hcs fun k hk e => by omega, fun n hn => Hsm.out n (List.mem_of_mem_take hn), by rw [List.length_take]; omega⟩
              | false =>
                go_wp2_with fail
                go_meet
                exact ⟨rfl, ns, _, Hmid2.out, Hnam2.out, Hsm.out, hl4⟩
            case rest =>
            obtain ⟨rfl, hnam⟩ := hcut
            have Hnm := Lib.hid hnam
            clear hnam Hmid2 Hnam2 Hsm Hb2
            go_wp2_with fail
            refine (next_any _ _ (by omega) (by omega) _ _ (by obtain ⟨_, _, hm, _⟩ := Hnm.out; exact hm.2.2.2.1)).mono ?_
            rintro e w9 ⟨y, hy, rfl, hsrc9, hc9, hz9⟩
            have Hnm9 := Lib.hid (Hnm.out.next hsrc9 hc9)
            clear hsrc9 hc9 hz9 Hnm
            go_upto_if 72 with fail
            go_cut [6] from 11 to 83 (fun x wx => x = .pointer (some ⟨eb, 0, none⟩) ∧ CNam w (.slice va ps.length vc) ps eb wx)
            case first =>
              cases hy0 : ((y : Int) == 0) with
              | true =>
                go_wp2_with fail
                refine (next_any _ _ (by omega) (by omega) _ _ (by obtain ⟨_, _, hm, _⟩ := Hnm9.out; exact hm.2.2.2.1)).mono ?_
                rintro e w10 ⟨p, hp, rfl, hsrc10, hc10, hz10⟩
                have Hnm10 := Lib.hid (Hnm9.out.next hsrc10 hc10)
                have p0 : (0 : Int) ≤ (p : Int) := by omega
                clear hsrc10 hc10 hz10 Hnm9
                go_wp2_with fail
                refine (next_any _ _ (by omega) (by omega) _ _ (by obtain ⟨_, _, hm, _⟩ := Hnm10.out; exact hm.2.2.2.1)).mono ?_
                rintro e w11 ⟨q, hq, rfl, hsrc11, hc11, hz11⟩
                obtain ⟨ns2, u2, hm, hnm2, hsm2, hl2⟩ := Hnm10.out.next hsrc11 hc11
                obtain ⟨m1, m2, m3, m4, cl', op', ttl', tk', hn, he⟩ := hm
                obtain ⟨f1, f2, f3, f4, f5, f6, f7⟩ := he
                simp only at f3 f4 f5 f6 f7
                have p1 : (0 : Int) ≤ (q : Int) := by omega
                have Hm := Lib.hid (show _ ∧ _ ∧ _ ∧ _ from ⟨m1, m2, m3, m4⟩)
                have Hnm2 := Lib.hid hnm2
                have Hsm2 := Lib.hid hsm2
                clear m1 m2 m3 m4 hsrc11 hc11 hz11 Hnm10 hnm2 hsm2
                go_wp2_with fail
                go_meet
                have hcs : Chg (· = eb) w11 ((w11.setCell ⟨eb, 3, none⟩ (.int .i64 (1073741824 - (p : Int)))).setCell ⟨eb, 2, none⟩ (.int .i64 (q : Int))) := ((Chg.refl (· = eb) w11).setCell (p := ⟨eb, 3, none⟩) (.inl rfl) _).setCell (p := ⟨eb, 2, none⟩) (.inl rfl) _
                have h3 : CMid w (.slice va ps.length vc) ps eb ns2 u2 (w11.setCell ⟨eb, 3, none⟩ (.int .i64 (1073741824 - (p : Int)))) := cmid_set Hm.out (cl := cl') (op := op') (ttl := ttl') (tk := 1073741824 - (p : Int)) ⟨hn.c0, hn.c1, hn.o0, hn.o1, hn.t0, hn.t1, by omega, by omega⟩ ⟨by simpa [World.setCell] using f1, fun i => by go_simp, by go_simp, by go_simp, by go_simp, by go_simp, by go_simp⟩
                refine ⟨rfl, ns2, u2, cmid_set ⟨h3.1, h3.2.1, h3.2.2.1, h3.2.2.2.1⟩ (cl := cl') (op := op') (ttl := (q : Int)) (tk := 1073741824 - (p : Int)) ⟨hn.c0, hn.c1, hn.o0, hn.o1, by omega, by omega, by omega, by omega⟩ ⟨by simpa [World.setCell] using f1, fun i => by go_simp, by go_simp, by go_simp, by go_simp, by go_simp, by go_simp⟩, Rd.chg Hnm2.out hcs fun k hk e => by omega, Hsm2.out, hl2⟩
              | false =>
                go_wp2_with fail
                go_meet
                exact ⟨rfl, Hnm9.out⟩
            case rest =>
            obtain ⟨rfl, ns2, u2, hm, hnm2, hsm2, hl2⟩ := hcut
            obtain ⟨A2, c3, rfl⟩ := hnm2.shape
            obtain ⟨m1, m2, m3, m4, cl', op', ttl', tk', hn, he⟩ := hm
            obtain ⟨f1, f2, f3, f4, f5, f6, f7⟩ := he
            simp only at f3 f4 f5 f6 f7
            have hxz : Ext wc (wc.alloc (.cells #[.int .i64 cl', .int .i64 op', .int .i64 ttl', .int .i64 tk', .slice A2 ns2.length c3] 49)) := (Ext.refl wc).alloc _
            have Hst9 := Lib.hid (m1.chg (hxz.chg fun _ => False) (fun i hi => hi.elim))
            have Hsrc9 := Lib.hid (m4.ext hxz)
            have Hnm9b := Lib.hid (Rd.mono (Rd.ext hnm2 hxz) fun k hk _ => (by omega : eb ≤ k))
            have Hrl := Lib.hid (rd_call wc cl' op' ttl' tk' (.slice A2 ns2.length c3))
            have Hbz := Lib.hid (show w.heap.size + 1 ≤ (wc.alloc (.cells #[.int .i64 cl', .int .i64 op', .int .i64 ttl', .int .i64 tk', .slice A2 ns2.length c3] 49)).heap.size by simp; omega)
            have Hok := Lib.hid (show CalOk ⟨cl', op', ttl', tk', ns2⟩ from ⟨hn, hsm2, hl2⟩)
            obtain ⟨i0, hi, hz0, hz1, hz2⟩ := info_parts info_call
            clear m1 m4 hnm2 hsm2 hxz hn Hnm9
            go_wp2_with (at_builtin; refine wpList_append_rd _ rfl _ _ 46 rfl (w.heap.size + 1) 49 i0 _ 5 56 und_calls hi hz0 hz1 hz2 rfl (by decide) _ ps.length _ rfl Hst9.out.own (fun _ => True) _ 1 _ rfl Hrl.out (by simp [Value.oneCell']) (by unfold maxLen; omega) (by omega) Hbz.out ?_; intro v' w12 ha; obtain ⟨a3, c3', hv3⟩ := own_shape ha.own; subst hv3)
            have hcg := (Chg.refl (fun b => (Value.slice va ps.length vc).ownBlock = some b) _).grown ha.grown (fun k hk => .inl hk)
            have hend := Hst9.out.more (e := ⟨cl', op', ttl', tk', ns2⟩) (u := .slice A2 ns2.length c3) Hok.out Hnm9b.out ha
            have hse := Hsrc9.out.chg hcg (fun e => by have := (Hst9.out.own.lt _ e).1; omega) (fun j hj e => by have := (Hst9.out.own.lt _ e).1; omega)
            have Hend := Lib.hid hend
            have Hse := Lib.hid hse
            clear ha hcg hend hse Hst9 Hsrc9 Hnm9b Hrl Hbz
            go_roundw
            case rel => exact ⟨t + d, by go_num, _, by simp; omega, by simp; omega, Hend.out, Hse.out⟩
            case measure => simp [vLen]; omega
      · have hd : decide ((ps.length : Int) < 30) = false := by simp; omega
        go_wp2_with fail
        go_ret
        exact ⟨_, ps, rfl, hp30, Hst2.out⟩
end Go.Proofs.Ytfbhbnolnjcaiaa
