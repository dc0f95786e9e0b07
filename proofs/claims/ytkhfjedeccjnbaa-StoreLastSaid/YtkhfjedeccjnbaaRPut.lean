/-
  What the reference's Put does, and the number that it returns (26.3).
  Conditions: the store is whole in memory; lengths within a process's reach.
-/
import Derived.Test.YtkhfjedeccjnbaaRStore
import Derived.Test.YtkhfjedeccjnbaaLaw26a
import Derived.Deep.RegionLaw
namespace Go.Proofs.Ytkhfjedeccjnbaa
open Go.RowKit Go.Sort
set_option maxHeartbeats 4000000

/-- What the reference's Put does with the slots and with the list of what was put, and the number that it returns. -/
def RPutSpec (n : Nat) (sl : Nat → Option ByteArray) (u : Int) (log : List (ByteArray × Rc)) (key : ByteArray) (r : Rc) (code : Int) (n' : Nat) (sl' : Nat → Option ByteArray) (log' : List (ByteArray × Rc)) : Prop :=
  (r.check = false ∧ code = 1 ∧ n' = n ∧ sl' = sl ∧ log' = log) ∨
  (r.check = true ∧
    ((r.st = 0 ∧ (∃ p, Has n sl key p ∧ ∃ s, RmDone n (rmStart n sl (fun _ => ()) p) s ∧ sl' = s.sl) ∧ code = 0 ∧ n' = n ∧ log' = log ++ [(key, r)]) ∨
     (r.st = 0 ∧ (∀ i, ¬ Has n sl key i) ∧ code = 0 ∧ n' = n ∧ sl' = sl ∧ log' = log) ∨
     (r.st ≠ 0 ∧ (∃ p, Has n sl key p) ∧ code = 0 ∧ n' = n ∧ sl' = sl ∧ log' = log ++ [(key, r)]) ∨
     (r.st ≠ 0 ∧ (∀ i, ¬ Has n sl key i) ∧ 3 * (n : Int) ≤ 4 * u ∧ 2048 ≤ n ∧ code = 7 ∧ n' = n ∧ sl' = sl ∧ log' = log) ∨
     (r.st ≠ 0 ∧ (∀ i, ¬ Has n sl key i) ∧ 3 * (n : Int) ≤ 4 * u ∧ n < 2048 ∧ code = 0 ∧ n' = 2 * n ∧ log' = log ++ [(key, r)] ∧ ∃ s1 f1 u1 q, Dbl () (2 * n) sl (fun _ => ()) n s1 f1 u1 ∧ FindAt (2 * n) s1 key q false ∧ sl' = upd s1 q (some key)) ∨
     (r.st ≠ 0 ∧ (∀ i, ¬ Has n sl key i) ∧ ¬ 3 * (n : Int) ≤ 4 * u ∧ code = 0 ∧ n' = n ∧ log' = log ++ [(key, r)] ∧ ∃ p, FindAt n sl key p false ∧ sl' = upd sl p (some key))))
theorem RStC.more {w : World} {S : Nat → Prop} {b n : Nat} {sl : Nat → Option ByteArray} {log : List (ByteArray × Rc)} {L L' t : Nat} {kv rv : Value} {St Sk Sr : Nat → Prop} (h : RStC w S b n sl log L t kv rv St Sk Sr) (hL : L ≤ L') : RStC w S b n sl log L' t kv rv St Sk Sr :=
  ⟨h.c0, h.c1, h.c2, h.fr, h.sb, h.tab.more hL, h.keys, h.recs, h.st, h.sk, h.sr, h.low⟩
theorem RStIs.more {w : World} {S : Nat → Prop} {b n : Nat} {sl : Nat → Option ByteArray} {log : List (ByteArray × Rc)} {L L' : Nat} (h : RStIs w S b n sl log L) (hL : L ≤ L') : RStIs w S b n sl log L' := by
  obtain ⟨t, kv, rv, St, Sk, Sr, h⟩ := h
  exact ⟨t, kv, rv, St, Sk, Sr, h.more hL⟩
def RPutPost (S : Nat → Prop) (b n : Nat) (sl : Nat → Option ByteArray) (u : Int) (log : List (ByteArray × Rc)) (L : Nat) (key : ByteArray) (r : Rc) (w : World) (e : Ending) (w' : World) : Prop :=
  ∃ code n' sl' log' S', e = .returned (.int .i64 code) ∧ RPutSpec n sl u log key r code n' sl' log' ∧ RStIs w' S' b n' sl' log' (L + 2049) ∧ (∀ k, S' k → S k ∨ w.heap.size ≤ k) ∧ Chg S w w'
/-- Where Put's ways meet: the slots are as they will be; the record is still to be put into the list. -/
def RMid (w : World) (S : Nat → Prop) (b rb : Nat) (st ow dl : Int) (nm : ByteArray) (n' : Nat) (sl' : Nat → Option ByteArray) (log : List (ByteArray × Rc)) (L : Nat) (wx : World) : Prop :=
  RecAt wx rb st ow dl nm ∧ w.heap.size ≤ rb ∧ Chg S w wx ∧ ∃ S', RStIs wx S' b n' sl' log L ∧ (∀ k, S' k → S k ∨ w.heap.size ≤ k) ∧ ¬ S' rb
theorem rd_lit (w : World) (cs : Array Value) (t : TypeId) (z : Nat) (h : cs.size = z) : Rd (w.alloc (.cells cs t)) (fun _ => True) z (.slice (some ⟨w.heap.size, 0, none⟩) 1 1) 1 cs.toList := by
  refine ⟨by simp [h], _, 1, rfl, Nat.le_refl _, by unfold maxLen; omega, fun _ => ⟨w.heap.size, 0, rfl, trivial, by simp, fun j u hu => ?_⟩⟩
  rw [Nat.zero_add]
  show (w.alloc (.cells cs t)).cell? ⟨w.heap.size, j, none⟩ = some u
  have h1 : (w.alloc (.cells cs t)).heap[w.heap.size]? = some (.cells cs t) := heap_alloc_new w _
  simp only [World.cell?, h1]
  simpa using hu
theorem recs_one (log : List (ByteArray × Rc)) : ∀ u ∈ logRecs log, u.oneCell' = true := by
  intro u hu
  unfold logRecs flatR at hu
  obtain ⟨r, _, hr⟩ := List.mem_flatMap.1 hu
  simp [Rc.cells] at hr
  rcases hr with rfl | rfl | rfl | rfl <;> rfl
theorem rec_one {st ow dl : Int} {nm : ByteArray} : ∀ u ∈ [Value.int .i64 st, Value.int .i64 ow, Value.string nm, Value.int .i64 dl], u.oneCell' = true := by
  intro u hu
  simp at hu
  rcases hu with rfl | rfl | rfl | rfl <;> rfl
theorem keys_one (log : List (ByteArray × Rc)) : ∀ u ∈ logKeys log, u.oneCell' = true := by
  intro u hu
  obtain ⟨p, _, rfl⟩ := List.mem_map.1 hu
  rfl
theorem Chg.then_ {S T : Nat → Prop} {a b c : World} (h : Chg S a b) (k : Chg T b c) (hT : ∀ i, i < a.heap.size → T i → S i) : Chg S a c :=
  ⟨k.os.trans h.os, k.tape.trans h.tape, k.output.trans h.output, Nat.le_trans h.size k.size, fun i hi hS => (k.block i (Nat.lt_of_lt_of_le hi h.size) (fun ht => hS (hT i hi ht))).trans (h.block i hi hS)⟩
theorem logKeys_snoc (log : List (ByteArray × Rc)) (p : ByteArray × Rc) : logKeys (log ++ [p]) = logKeys log ++ [.string p.1] := by simp [logKeys]
theorem logRecs_snoc (log : List (ByteArray × Rc)) (p : ByteArray × Rc) : logRecs (log ++ [p]) = logRecs log ++ p.2.cells := by simp [logRecs, flatR]
theorem rput_fin {wc w4 w6 : World} {S' : Nat → Prop} {b n' : Nat} {sl' : Nat → Option ByteArray} {log : List (ByteArray × Rc)} {L' t' : Nat} {kv' rv' v2 v6 : Value} {St' Sk' Sr' : Nat → Prop} {key : ByteArray} {st ow dl : Int} {nm : ByteArray}
    (hC : RStC wc S' b n' sl' log L' t' kv' rv' St' Sk' Sr') (hc4 : Chg (· = b) wc w4) (d0 : w4.cell? ⟨b, 0, none⟩ = some (.pointer (some ⟨t', 0, none⟩))) (d1 : w4.cell? ⟨b, 1, none⟩ = some v2) (d2 : w4.cell? ⟨b, 2, none⟩ = some rv') (df : ∀ j, w4.frozen? ⟨b, j, none⟩ = false)
    (ho4 : w4.ownsRow wc.heap.size 9 1 v2 (log.length + 1) (logKeys log ++ [.string key])) (hx6 : Ext w4 w6) (ho6 : w6.ownsRow w4.heap.size 30 4 v6 (log.length + 1) (logRecs log ++ [.int .i64 st, .int .i64 ow, .string nm, .int .i64 dl])) :
    RStC (w6.setCell ⟨b, 2, none⟩ v6) (fun k => S' k ∨ v2.ownBlock = some k ∨ v6.ownBlock = some k) b n' sl' (log ++ [(key, ⟨st, ow, nm, dl⟩)]) L' t' v2 v6 St' (fun k => v2.ownBlock = some k) (fun k => v6.ownBlock = some k) := by
  have hbl := hC.low b hC.sb
  have hz4 := hc4.size
  have hz6 := hx6.size
  have hb4 : b < w4.heap.size := by omega
  have e0 := (hx6.cell (p := ⟨b, 0, none⟩) hb4).trans d0
  have e1 := (hx6.cell (p := ⟨b, 1, none⟩) hb4).trans d1
  have e2 := (hx6.cell (p := ⟨b, 2, none⟩) hb4).trans d2
  have ef := fun j => (hx6.frozen (p := ⟨b, j, none⟩) hb4).trans (df j)
  have l2 := fun k hk => ho4.lt k hk
  have l6 := fun k hk => ho6.lt k hk
  have hc7 : Chg (· = b) w6 (w6.setCell ⟨b, 2, none⟩ v6) := (Chg.refl (· = b) w6).setCell (p := ⟨b, 2, none⟩) (.inl rfl) v6
  have hz7 := hc7.size
  have hcc : Chg (· = b) wc (w6.setCell ⟨b, 2, none⟩ v6) := (hc4.trans (hx6.chg _)).trans hc7
  refine ⟨by go_simp, by go_simp, by go_simp, fun j => by go_simp, .inl hC.sb, hC.tab.chg hcc fun k hk e => (hC.st k hk).2.1 e, ?_, ?_, fun k hk => ⟨.inl (hC.st k hk).1, (hC.st k hk).2.1, fun h => ?_, fun h => ?_⟩, fun k hk => ⟨.inr (.inl hk), ?_⟩, fun k hk => ⟨.inr (.inr hk), ?_⟩, fun k hk => ?_⟩
  · have hr : Rd w4 (fun k => v2.ownBlock = some k) 1 v2 (log.length + 1) (logKeys log ++ [.string key]) := Rd.of_own ho4 fun k hk => hk
    have hr2 := (hr.ext hx6).chg hc7 (fun k hk e => by subst e; have := (l2 k hk).1; omega)
    rw [logKeys_snoc, List.length_append]; exact hr2
  · have hr : Rd w6 (fun k => v6.ownBlock = some k) 4 v6 (log.length + 1) (logRecs log ++ [.int .i64 st, .int .i64 ow, .string nm, .int .i64 dl]) := Rd.of_own ho6 fun k hk => hk
    have hr2 := hr.chg hc7 (fun k hk e => by subst e; have := (l6 k hk).1; omega)
    rw [logRecs_snoc, List.length_append]; exact hr2
  · have := (l2 k h).1; have := hC.low k (hC.st k hk).1; omega
  · have := (l6 k h).1; have := hC.low k (hC.st k hk).1; omega
  · have := (l2 k hk).1; omega
  · have := (l6 k hk).1; omega
  · rcases hk with hk | hk | hk
    · have := hC.low k hk; omega
    · have := (l2 k hk).2; omega
    · have := (l6 k hk).2; omega
/-- The loop that puts the old keys into the table of twice as many slots. -/
structure DRel (w1 : World) (b t2 n : Nat) (sl : Nat → Option ByteArray) (kv rv : Value) (i : Nat) (wr : World) : Prop where
  chg : Chg (· = b) w1 wr
  c0 : wr.cell? ⟨b, 0, none⟩ = some (.pointer (some ⟨t2, 0, none⟩))
  c1 : wr.cell? ⟨b, 1, none⟩ = some kv
  c2 : wr.cell? ⟨b, 2, none⟩ = some rv
  fr : ∀ j, wr.frozen? ⟨b, j, none⟩ = false
  new : ∃ S2 s f v, TabIs wr S2 t2 (2 * n) s i ∧ Dbl () (2 * n) sl (fun _ => ()) i s f v ∧ ∀ k, S2 k → w1.heap.size ≤ k
theorem newTable_at (v : Int) (m : Nat) (hv : v = (m : Int)) (hm : m ≤ 4096) (w : World) : Calls Try.prog 93 #[.int .i64 v] w (NewTablePost m w) := by
  subst hv
  exact newTable_any m hm w
theorem tabIs_new {w : World} {t s m : Nat} (h : TableAt w t s m (fun _ => -1) (.slice none 0 0)) : TabIs w (fun k => k = t ∨ k = s) t m (fun _ => none) 0 :=
  ⟨s, _, _, [], fun _ => False, h, .inl rfl, .inr rfl, fun k hk => hk.elim, Rd.nil _ _ _, Nat.le_refl _, fun i hi => .inl ⟨rfl, rfl⟩, fun k hk => by rcases hk with rfl | rfl; exact h.2.1; exact h.2.2.2.2.2.1⟩
set_option maxRecDepth 100000
theorem rput_any (S : Nat → Prop) (b n : Nat) (sl : Nat → Option ByteArray) (u : Int) (log : List (ByteArray × Rc)) (L : Nat) (key : ByteArray) (st ow dl : Int) (nm : ByteArray) (w : World) (o : StOk n sl u) (hs : key.size ≤ maxLen) (hL : L ≤ 900000) (hlog : log.length ≤ 900000) (h : RStIs w S b n sl log L) :
    Calls Try.prog 69 #[.pointer (some ⟨b, 0, none⟩), .string key, .agg #[.int .i64 st, .int .i64 ow, .string nm, .int .i64 dl]] w (RPutPost S b n sl u log L key ⟨st, ow, nm, dl⟩ w) := by
  have hlo := o.lo
  have hhi := o.hi
  obtain ⟨hu0, hun⟩ := o.tab.bd
  have hx0 : Ext w (w.alloc (.cells #[.int .i64 st, .int .i64 ow, .string nm, .int .i64 dl] 30)) := (Ext.refl w).alloc _
  have hr0 : RecAt (w.alloc (.cells #[.int .i64 st, .int .i64 ow, .string nm, .int .i64 dl] 30)) w.heap.size st ow dl nm := by
    refine ⟨?_, ?_, ?_, ?_, fun i => ?_⟩ <;> go_simp
  obtain ⟨t, kv, rv, St, Sk, Sr, hC⟩ := h
  have hlow := hC.low
  have HC0 := Lib.hid (hC.ext hx0)
  have Hx0 := Lib.hid hx0
  have Hr0 := Lib.hid hr0
  have c0 := HC0.out.c0
  have hy0 := HC0.out.tab
  obtain ⟨ts, tf, tk, ks, S0, h1, _⟩ := hy0
  obtain ⟨_, _, _, y0, _, _⟩ := h1
  clear hC hx0
  go_enter Try.func69, Try.ntmps69
  go_wp2_with fail
  refine (rplace_any St t n sl L key _ (by omega) HC0.out.tab).mono ?_
  rintro e w1 ⟨pl, rfl, hpl, rfl⟩
  have Hpl := Lib.hid hpl
  clear hpl
  go_wp2_with fail
  refine (rlen_any St t n sl L _ (by omega) HC0.out.tab).mono ?_
  rintro e w1 ⟨rfl, rfl⟩
  rw [← o.tab.num]
  go_upto_block 0 with fail
  go_cut [6, 9] (fun _ _ wx => ∃ n' sl', RMid w S b w.heap.size st ow dl nm n' sl' log (L + 2049) wx ∧ RPutSpec n sl u log key ⟨st, ow, nm, dl⟩ 0 n' sl' (log ++ [(key, ⟨st, ow, nm, dl⟩)]))
  case first =>
    obtain ⟨r0, r1, r2, r3, rf⟩ := hr0
    cases hck : checkB st ow dl nm
    · have Hck := Lib.hid hck
      clear c0 y0
      go_wp2_with (go_at_call 48; refine (rcheck_any _ _ _ _ _).mono ?_; rintro e w1 ⟨rfl, hx1⟩; rw [hck])
      go_ret
      exact ⟨1, n, sl, log, S, rfl, .inl ⟨Hck.out, rfl, rfl, rfl, rfl⟩, ⟨t, kv, rv, St, Sk, Sr, (HC0.out.ext hx1).more (by omega)⟩, fun k hk => .inl hk, (Hx0.out.trans hx1).chg S⟩
    · have Hck := Lib.hid hck
      go_wp2_with fail
      refine (rcheck_any _ _ _ _ _).mono ?_
      rintro e w1 ⟨rfl, hx1⟩
      rw [hck]
      have Hr1 := Lib.hid (Hr0.out.ext hx1)
      have HC1 := Lib.hid (HC0.out.ext hx1)
      have Hx1 := Lib.hid (Hx0.out.trans hx1)
      have hSz : ∀ k, S k → k ≠ w.heap.size := fun k hk => by have := hlow k hk; omega
      clear r0 r1 r2 r3 rf c0 y0 hx1 hck
      obtain ⟨r0, r1, r2, r3, rf⟩ := Hr1.out
      have c0 := HC1.out.c0
      obtain ⟨fu, hfu, hfree⟩ := o.free
      by_cases hst : st = 0
      · rcases Hpl.out with ⟨p, hp, rfl⟩ | ⟨hno, rfl⟩
        · subst hst
          have Hp := Lib.hid hp
          clear hp
          go_wp2_with fail
          refine (rremove_any St t n sl u L p key _ (by omega) (by omega) o.keys Hp.out o.tab fu hfu hfree HC1.out.tab).mono ?_
          rintro e w2 ⟨rfl, s', hdone, ht2, hc2⟩
          have hC2 : RStC w2 S b n s'.sl log L t kv rv St Sk Sr := by
            have h := HC1.out
            have hb1 : ¬ St b := fun hb => (h.st b hb).2.1 rfl
            have hbl := h.low b h.sb
            exact ⟨(hc2.cell (p := ⟨b, 0, none⟩) hbl hb1).trans h.c0, (hc2.cell (p := ⟨b, 1, none⟩) hbl hb1).trans h.c1, (hc2.cell (p := ⟨b, 2, none⟩) hbl hb1).trans h.c2, fun j => (hc2.frozen (p := ⟨b, j, none⟩) hbl hb1).trans (h.fr j), h.sb, ht2,
              h.keys.chg hc2 fun k hk hk2 => (h.st k hk2).2.2.1 hk, h.recs.chg hc2 fun k hk hk2 => (h.st k hk2).2.2.2 hk, h.st, h.sk, h.sr, fun k hk => Nat.lt_of_lt_of_le (h.low k hk) hc2.size⟩
          have hr2 := Hr1.out.chg hc2 (fun h => hSz _ (HC1.out.st _ h).1 rfl)
          have hx2 : Chg S w w2 := (Hx1.out.chg S).trans (hc2.mono fun k _ hk => (HC1.out.st k hk).1)
          go_wp2_with fail
          go_meet
          exact ⟨n, s'.sl, ⟨hr2, Nat.le_refl _, hx2, S, ⟨t, kv, rv, St, Sk, Sr, hC2.more (by omega)⟩, fun k hk => .inl hk, fun h => hSz _ h rfl⟩, .inr ⟨Hck.out, .inl ⟨rfl, ⟨p, Hp.out, s', hdone, rfl⟩, rfl, rfl, rfl⟩⟩⟩
        · subst hst
          have Hno := Lib.hid hno
          clear hno
          go_wp2_with fail
          go_ret
          exact ⟨0, n, sl, log, S, rfl, .inr ⟨Hck.out, .inr (.inl ⟨rfl, Hno.out, rfl, rfl, rfl, rfl⟩)⟩, ⟨t, kv, rv, St, Sk, Sr, HC1.out.more (by omega)⟩, fun k hk => .inl hk, Hx1.out.chg S⟩
      · have hst' : (st == 0) = false := by simpa using hst
        have Hst := Lib.hid hst
        clear hst
        rcases Hpl.out with ⟨p, hp, rfl⟩ | ⟨hno, rfl⟩
        · have Hp := Lib.hid hp
          clear hp
          go_wp2_with fail
          go_meet
          exact ⟨n, sl, ⟨Hr1.out, Nat.le_refl _, Hx1.out.chg S, S, ⟨t, kv, rv, St, Sk, Sr, HC1.out.more (by omega)⟩, fun k hk => .inl hk, fun h => hSz _ h rfl⟩, .inr ⟨Hck.out, .inr (.inr (.inl ⟨Hst.out, ⟨p, Hp.out⟩, rfl, rfl, rfl, rfl⟩))⟩⟩
        · have Hno := Lib.hid hno
          clear hno
          by_cases hfull : 3 * (n : Int) ≤ 4 * u
          · have hfd : decide (3 * (n : Int) ≤ 4 * u) = true := by simpa using hfull
            have Hfull := Lib.hid hfull
            clear hfull
            by_cases hmax : 2048 ≤ n
            · have hmd : decide ((2048 : Int) ≤ (n : Int)) = true := by simp; omega
              go_wp2_with fail
              go_ret
              exact ⟨7, n, sl, log, S, rfl, .inr ⟨Hck.out, .inr (.inr (.inr (.inl ⟨Hst.out, Hno.out, Hfull.out, hmax, rfl, rfl, rfl, rfl⟩)))⟩, ⟨t, kv, rv, St, Sk, Sr, HC1.out.more (by omega)⟩, fun k hk => .inl hk, Hx1.out.chg S⟩
            · have hmd : decide ((2048 : Int) ≤ (n : Int)) = false := by simp; omega
              have hC1 := HC1.out
              have hbl := hC1.low b hC1.sb
              have hbt : b ≠ t := fun e => (hC1.st b (by
                obtain ⟨_, _, _, _, _, _, h, _⟩ := hC1.tab
                rw [e]; exact h)).2.1 rfl
              have c1 := hC1.c1
              have c2 := hC1.c2
              have cf := hC1.fr
              have Hmax := Lib.hid hmax
              clear hmax
              go_wp2_with fail
              refine (newTable_at _ (2 * n) (by omega) (by omega) _).mono ?_
              rintro e w2 ⟨t2, s2, rfl, ht2, hs2, htab, hx2⟩
              have hc2w := hx2.chg (· = b)
              have hcell := fun j => hx2.cell (p := ⟨b, j, none⟩) hbl
              have hfr := fun j => (hx2.frozen (p := ⟨b, j, none⟩) hbl).trans (cf j)
              have c0' := (hcell 0).trans c0
              have c1' := (hcell 1).trans c1
              have c2' := (hcell 2).trans c2
              have hd0 : DRel w1 b t2 n sl kv rv 0 (w2.setCell ⟨b, 0, none⟩ (.pointer (some ⟨t2, 0, none⟩))) := by
                have hl2 := htab.2.1
                have hl3 := htab.2.2.2.2.2.1
                refine ⟨hc2w.setCell (p := ⟨b, 0, none⟩) (.inl rfl) _, by go_simp, by go_simp, by go_simp, fun j => by go_simp, (fun k => k = t2 ∨ k = s2), _, _, _, (tabIs_new htab).chg ((Chg.refl (· = b) w2).setCell (p := ⟨b, 0, none⟩) (.inl rfl) _) (fun k hk e => by subst e; rcases hk with rfl | rfl <;> omega), ⟨rfl, rfl, rfl⟩, fun k hk => by rcases hk with rfl | rfl <;> assumption⟩
              obtain ⟨ts, tf, tk, ks, S0, hta, hSt, hSs, hS0, hrk, hkl, henc, htl⟩ := hC1.tab
              have Hta := Lib.hid hta
              have Hrk := Lib.hid hrk
              have Hd0 := Lib.hid hd0
              have hbts : b ≠ ts := fun e => (hC1.st b (by rw [e]; exact hSs)).2.1 rfl
              have hnS0 : ∀ k, S0 k → k ≠ b := fun k hk => (hC1.st k (hS0 k hk).1).2.1
              obtain ⟨htts, htl1, htf1, z0, z1, hts1, htf2, hz2⟩ := hta
              have z0' : (w2.setCell ⟨b, 0, none⟩ (.pointer (some ⟨t2, 0, none⟩))).cell? ⟨t, 0, none⟩ = some (.slice (some ⟨ts, 0, none⟩) n n) := ((hd0.chg).cell (p := ⟨t, 0, none⟩) htl1 (Ne.symm hbt)).trans z0
              clear hC1 htab hc2w hcell hd0 hrk c0 c1 c2 cf
              go_wp2_with fail
              go_loopw [91] (fun o wr => ∃ i : Nat, i ≤ n ∧ o = .int .i64 (i : Int) ∧ DRel w1 b t2 n sl kv rv i wr) (fun o _ => n - (intOf o).toNat)
              case atStart => exact ⟨0, by omega, rfl, Hd0.out⟩
              case round =>
                clear Hd0 c0' c1' c2' hfr z0'
                obtain ⟨i, hi, rfl, hD⟩ := hrel
                have HD := Lib.hid hD
                obtain ⟨hchg, q0, q1, q2, qf, S2, s, f, v, htb, hdbl, hS2⟩ := hD
                have Htb := Lib.hid htb
                obtain ⟨t1, hv, hH⟩ := dbl_inv o.tab (show 0 < 2 * n by omega) hi hdbl
                have hcnt := cnt_le sl i
                by_cases hin : i < n
                · have hd : decide ((i : Int) < (n : Int)) = true := by simpa using hin
                  have d0 := (hchg.cell (p := ⟨ts, i, none⟩) hts1 (Ne.symm hbts)).trans (hz2 i hin)
                  rcases henc i hin with ⟨e1, e2⟩ | ⟨j, k, e1, e2, e3⟩
                  · rw [e2] at d0
                    have He1 := Lib.hid e1
                    clear e1 e2 hchg htb hv hH
                    go_wp2_with fail
                    go_roundw
                    case rel => exact ⟨i + 1, by omega, by go_num, HD.out.chg, HD.out.c0, HD.out.c1, HD.out.c2, HD.out.fr, S2, s, f, v, Htb.out.more (by omega), .inl ⟨He1.out, hdbl⟩, hS2⟩
                    case measure => simp [intOf]; omega
                  · rw [e2] at d0
                    have hksz := o.keys i k hin e1
                    have hd0 : decide ((0 : Int) ≤ (j : Int)) = true := by simp
                    have hjl : j < ks.length := (List.getElem?_eq_some_iff.1 e3).1
                    obtain ⟨g, oo, c, rfl, _, hc2, hSg, hgl, hrd⟩ := Hrk.out.at_ hjl
                    unfold maxLen at hc2
                    have hgb := hnS0 g hSg
                    have d1 := (hchg.cell (p := ⟨t, 1, none⟩) htl1 (Ne.symm hbt)).trans z1
                    have d2 := (hchg.cell (p := ⟨g, oo + j, none⟩) hgl hgb).trans (hrd j _ (map_string_at e3))
                    have j0 : (0 : Int) ≤ (j : Int) := by omega
                    have j1 : (j : Int) < (ks.length : Int) := by omega
                    have hno2 := dbl_new o.tab (show 0 < 2 * n by omega) hin hdbl e1
                    obtain ⟨fq, hfq, hfreeq⟩ := t1.free (by omega)
                    have He1 := Lib.hid e1
                    have Hno2 := Lib.hid hno2
                    have Hchg := Lib.hid hchg
                    have hsw := hchg.size
                    have hbS : ¬ S2 b := fun h => by have := hS2 b h; omega
                    have htS : ¬ S2 t := fun h => by have := hS2 t h; omega
                    have hgS : ¬ S2 g := fun h => by have := hS2 g h; omega
                    clear e1 e2 e3 htb hv hH hno2 hrd hchg
                    go_wp2_with fail
                    go_region_held3 (fun w' => w'.cell? ⟨b, 0, none⟩ = some (.pointer (some ⟨t2, 0, none⟩)) ∧ w'.cell? ⟨t, 1, none⟩ = some (.slice (some ⟨g, oo, none⟩) ks.length c) ∧ w'.cell? ⟨g, oo + j, none⟩ = some (.string k)) (go_keep)
                      ((go_at_call 107; refine (rinsert_any S2 t2 (2 * n) s i k _ (by omega) (by omega) (by omega) hksz Hno2.out fq hfq hfreeq (Htb.out.ext (by repeat' (first | exact Ext.refl _ | assumption | apply Ext.alloc | apply Ext.drewN | apply Ext.drew | (refine Ext.trans ?_ (by assumption)) | (refine ext_setCell ?_ (by first | (simp; done) | (simp; omega)) _))))).mono ?_; rintro e w3 ⟨rfl, q, S3, hf, ht3, hgr, hc3⟩; have hD3 : Chg (· = b) w1 w3 := (Hchg.out.drew).then_ hc3 (fun k' hk' hb' => absurd (hS2 k' hb') (by omega)); have x0 := (hc3.cell (p := ⟨b, 0, none⟩) (by simp; omega) hbS).trans q0; have x1 := (hc3.cell (p := ⟨t, 1, none⟩) (by simp; omega) htS).trans d1; have x2 := (hc3.cell (p := ⟨g, oo + j, none⟩) (by simp; omega) hgS).trans d2))
                    all_goals
                      have hdr : DRel w1 b t2 n sl kv rv (i + 1) w3 := by
                        refine ⟨hD3, x0, (hc3.cell (p := ⟨b, 1, none⟩) (by simp; omega) hbS).trans q1, (hc3.cell (p := ⟨b, 2, none⟩) (by simp; omega) hbS).trans q2, fun j => (hc3.frozen (p := ⟨b, j, none⟩) (by simp; omega) hbS).trans (qf j), S3, _, _, _, ht3, .inr ⟨k, q, s, f, v, He1.out, hdbl, hf, rfl, rfl, rfl⟩, fun k' hk' => ?_⟩
                        rcases hgr k' hk' with h | h
                        · exact hS2 k' h
                        · simp at h; omega
                      have Hdr := Lib.hid hdr
                      clear hdr hD3 hc3 ht3 hgr
                      go_wp2_with fail
                      go_roundw
                      case rel => exact ⟨i + 1, by omega, by go_num, Hdr.out⟩
                      case measure => simp [intOf]; omega
                · have hd : decide ((i : Int) < (n : Int)) = false := by simp; omega
                  have hii : i = n := by omega
                  subst hii
                  have hvu : v = u := by rw [hv, o.tab.num]
                  obtain ⟨fq, hfq, hfreeq⟩ := t1.free (by omega)
                  have hno2 : ∀ x, ¬ Has (2 * i) s key x := fun x hx => by
                    obtain ⟨j, a1, a2, _⟩ := (hH key _).1 ⟨x, hx.1, hx.2, rfl⟩
                    exact Hno.out j ⟨a1, a2⟩
                  have Hno2 := Lib.hid hno2
                  have Hchg := Lib.hid hchg
                  have hsw := hchg.size
                  have hbS : ¬ S2 b := fun h => by have := hS2 b h; omega
                  clear htb hv hH hno2 hchg hvu
                  go_wp2_with fail
                  refine (rinsert_any S2 t2 (2 * i) s i key _ (by omega) (by omega) (by omega) hs Hno2.out fq hfq hfreeq Htb.out).mono ?_
                  rintro e w3 ⟨rfl, q, S3, hf, ht3, hgr, hc3⟩
                  have hD3 : Chg (· = b) w1 w3 := Hchg.out.then_ hc3 (fun k' hk' hb' => absurd (hS2 k' hb') (by omega))
                  have hnew : ∀ k, S3 k → w1.heap.size ≤ k := fun k hk => by
                    rcases hgr k hk with h | h
                    · exact hS2 k h
                    · omega
                  have hC1 := HC1.out
                  have hC3 : RStC w3 (fun k => S k ∨ S3 k) b (2 * i) (upd s q (some key)) log (i + 1) t2 kv rv S3 Sk Sr := by
                    have hkl := fun k (hk : S k) => hC1.low k hk
                    refine ⟨(hc3.cell (p := ⟨b, 0, none⟩) (by simp only; omega) hbS).trans q0, (hc3.cell (p := ⟨b, 1, none⟩) (by simp only; omega) hbS).trans q1, (hc3.cell (p := ⟨b, 2, none⟩) (by simp only; omega) hbS).trans q2, fun j => (hc3.frozen (p := ⟨b, j, none⟩) (by simp only; omega) hbS).trans (qf j), .inl hC1.sb, ht3,
                      hC1.keys.chg hD3 fun k hk e => (hC1.sk k hk).2 e, hC1.recs.chg hD3 fun k hk e => (hC1.sr k hk).2 e, fun k hk => ⟨.inr hk, ?_, fun h => ?_, fun h => ?_⟩, fun k hk => ⟨.inl (hC1.sk k hk).1, (hC1.sk k hk).2⟩, fun k hk => ⟨.inl (hC1.sr k hk).1, (hC1.sr k hk).2⟩, fun k hk => ?_⟩
                    · have := hnew k hk; omega
                    · have := hnew k hk; have := hkl k (hC1.sk k h).1; omega
                    · have := hnew k hk; have := hkl k (hC1.sr k h).1; omega
                    · rcases hk with hk | hk
                      · exact Nat.lt_of_lt_of_le (hkl k hk) hD3.size
                      · exact ht3.low k hk
                  have hz1 := lt_of_cell Hr1.out.1
                  simp only at hz1
                  have hsz1 := Hx1.out.size
                  have hr3 := Hr1.out.chg hD3 (fun e => hSz b hC1.sb e.symm)
                  have hx3 : Chg S w w3 := (Hx1.out.chg S).then_ hD3 (fun k _ hk => by rw [hk]; exact hC1.sb)
                  go_wp2_with fail
                  go_meet
                  refine ⟨2 * i, _, ⟨hr3, Nat.le_refl _, hx3, _, ⟨t2, kv, rv, S3, Sk, Sr, hC3.more (by omega)⟩, fun k hk => ?_, fun h => ?_⟩, .inr ⟨Hck.out, .inr (.inr (.inr (.inr (.inl ⟨Hst.out, Hno.out, Hfull.out, by have := Hmax.out; omega, rfl, rfl, rfl, s, f, v, q, hdbl, hf, rfl⟩))))⟩⟩
                  · rcases hk with hk | hk
                    · exact .inl hk
                    · have := hnew k hk; exact .inr (by omega)
                  · rcases h with h | h
                    · exact hSz _ h rfl
                    · have := hnew _ h; omega
          · have hfd : decide (3 * (n : Int) ≤ 4 * u) = false := by simpa using hfull
            have Hfull := Lib.hid hfull
            clear hfull
            go_wp2_with fail
            refine (rinsert_any St t n sl L key _ (by omega) (by omega) (by omega) hs Hno.out fu hfu hfree HC1.out.tab).mono ?_
            rintro e w2 ⟨rfl, p, St', hf, ht2, hgr, hc2⟩
            have hC2 : RStC w2 (fun k => S k ∨ (St' k ∧ w1.heap.size ≤ k)) b n (upd sl p (some key)) log (L + 1) t kv rv St' Sk Sr := by
              have h := HC1.out
              have hb1 : ¬ St b := fun hb => (h.st b hb).2.1 rfl
              have hbl := h.low b h.sb
              have hkl := fun k (hk : S k) => h.low k hk
              refine ⟨(hc2.cell (p := ⟨b, 0, none⟩) hbl hb1).trans h.c0, (hc2.cell (p := ⟨b, 1, none⟩) hbl hb1).trans h.c1, (hc2.cell (p := ⟨b, 2, none⟩) hbl hb1).trans h.c2, fun j => (hc2.frozen (p := ⟨b, j, none⟩) hbl hb1).trans (h.fr j), .inl h.sb, ht2,
                h.keys.chg hc2 fun k hk hk2 => (h.st k hk2).2.2.1 hk, h.recs.chg hc2 fun k hk hk2 => (h.st k hk2).2.2.2 hk, fun k hk => ?_, fun k hk => ⟨.inl (h.sk k hk).1, (h.sk k hk).2⟩, fun k hk => ⟨.inl (h.sr k hk).1, (h.sr k hk).2⟩, fun k hk => ?_⟩
              · rcases hgr k hk with h1 | h1
                · exact ⟨.inl (h.st k h1).1, (h.st k h1).2.1, (h.st k h1).2.2.1, (h.st k h1).2.2.2⟩
                · exact ⟨.inr ⟨hk, h1⟩, by omega, fun h2 => by have := hkl k (h.sk k h2).1; omega, fun h2 => by have := hkl k (h.sr k h2).1; omega⟩
              · rcases hk with hk | hk
                · exact Nat.lt_of_lt_of_le (h.low k hk) hc2.size
                · exact ht2.low k hk.1
            have hsz1 := Hx1.out.size
            have hz1 := lt_of_cell Hr1.out.1
            simp only at hz1
            have hr2 := Hr1.out.chg hc2 (fun h => hSz _ (HC1.out.st _ h).1 rfl)
            have hx2 : Chg S w w2 := (Hx1.out.chg S).trans (hc2.mono fun k _ hk => (HC1.out.st k hk).1)
            go_wp2_with fail
            go_meet
            exact ⟨n, _, ⟨hr2, Nat.le_refl _, hx2, _, ⟨t, kv, rv, St', Sk, Sr, hC2.more (by omega)⟩, fun k hk => by rcases hk with hk | hk; exact .inl hk; exact .inr (by omega), fun h => by rcases h with h | h; exact hSz _ h rfl; omega⟩, .inr ⟨Hck.out, .inr (.inr (.inr (.inr (.inr ⟨Hst.out, Hno.out, (by have := Hfull.out; omega), rfl, rfl, rfl, p, hf, rfl⟩))))⟩⟩
  case rest =>
    clear c0 y0 hr0
    obtain ⟨n', sl', ⟨hr, hrb, hcw, S', ⟨t', kv', rv', St', Sk', Sr', hC'⟩, hgr, hnrb⟩, hspec⟩ := hcut
    obtain ⟨i0, hi, hz0, hz1, hz2⟩ := info_parts info_str
    obtain ⟨i1, hj, hy0, hy1, hy2⟩ := info_parts info_rec
    have Hspec := Lib.hid hspec
    have HC := Lib.hid hC'
    have Hr := Lib.hid hr
    have Hcw := Lib.hid hcw
    have hbl := hC'.low b hC'.sb
    have hrl := lt_of_cell hr.1
    simp only at hrl
    have hlowC := hC'.low
    have c0 := hC'.c0
    have c1 := hC'.c1
    have cf := hC'.fr
    have hkr := hC'.keys
    have Hkr := Lib.hid hkr
    obtain ⟨_, A, kc, hkv, hk1, hk2, _⟩ := hkr
    subst hkv
    unfold maxLen at hk2
    clear hspec hr hC' hcw
    go_wp2_with (at_builtin; refine wpList_append_rd _ rfl _ _ 77 rfl wc.heap.size 9 i0 _ 1 16 und_strs hi hz0 hz1 hz2 rfl (by decide) (.slice none 0 0) 0 [] rfl (World.ownsRow_nil _ _ _ _) Sk' _ log.length (logKeys log) rfl Hkr.out (keys_one _) ?c3 ?c4 ?c5 ?_)
    case c3 => unfold maxLen; omega
    case c4 => omega
    case c5 => exact Nat.le_refl _
    intro v1 w2 ha1
    have ho1 : w2.ownsRow wc.heap.size 9 1 v1 log.length (logKeys log) := by simpa using ha1.own
    have hx2 : Ext wc w2 := Ext.grown (Ext.refl _) ha1.grown (fun k hk => by simp [Value.ownBlock] at hk)
    have hz2' := hx2.size
    obtain ⟨a1, k1, hv1⟩ := own_shape ho1
    subst hv1
    have hb1 := fun k hk => (ho1.lt k hk).1
    have Hx2 := Lib.hid hx2
    clear ha1 c0 c1 cf hx2
    go_wp2_with (at_builtin; refine wpList_append_own_at _ rfl _ _ 77 rfl wc.heap.size 9 i0 _ 1 16 und_strs hi hz0 hz1 hz2 rfl (by decide) _ log.length _ rfl (ho1.alloc _) ⟨w2.heap.size, 0, none⟩ 1 1 [.string key] rfl rfl ?c1 ?c2 ?c3 ?c4 ?c5 ?_)
    case c1 => exact cell_one_new _ _ _
    case c2 => intro u hu; simp at hu; subst hu; rfl
    case c3 => unfold maxLen; omega
    case c4 => omega
    case c5 => simp; omega
    intro v2 w3 ho2 hg2 _ _
    have hx3 : Ext wc w3 := Ext.grown (Hx2.out.alloc _) hg2 hb1
    obtain ⟨a2, k2, hv2⟩ := own_shape ho2
    subst hv2
    have hz3 := hx3.size
    have c1 := (hx3.cell (p := ⟨b, 1, none⟩) hbl).trans HC.out.c1
    have c0 := (hx3.cell (p := ⟨b, 0, none⟩) hbl).trans HC.out.c0
    have c2 := (hx3.cell (p := ⟨b, 2, none⟩) hbl).trans HC.out.c2
    have cf := fun j => (hx3.frozen (p := ⟨b, j, none⟩) hbl).trans (HC.out.fr j)
    have hc4 : Chg (· = b) wc (w3.setCell ⟨b, 1, none⟩ (.slice a2 (log.length + 1) k2)) := (hx3.chg (· = b)).setCell (p := ⟨b, 1, none⟩) (.inl rfl) _
    have Hr4 := Lib.hid (Hr.out.chg hc4 (fun e => hnrb (e ▸ HC.out.sb)))
    have hrr := HC.out.recs.chg hc4 (fun k hk e => (HC.out.sr k hk).2 e)
    have Ho2 := Lib.hid ho2
    have Hc4 := Lib.hid hc4
    have Hrr := Lib.hid hrr
    obtain ⟨_, A2, rc, hrv, hk3, hk4, _⟩ := hrr
    subst hrv
    unfold maxLen at hk4
    clear ho2 hg2 hx3 hc4 ho1
    go_upto_region 24 with fail
    have hl4 : b < w3.heap.size := by omega
    have d2 : (w3.setCell ⟨b, 1, none⟩ (.slice a2 (log.length + 1) k2)).cell? ⟨b, 2, none⟩ = some (.slice A2 log.length rc) := by go_simp
    have d0 : (w3.setCell ⟨b, 1, none⟩ (.slice a2 (log.length + 1) k2)).cell? ⟨b, 0, none⟩ = some (.pointer (some ⟨t', 0, none⟩)) := by go_simp
    have d1 : (w3.setCell ⟨b, 1, none⟩ (.slice a2 (log.length + 1) k2)).cell? ⟨b, 1, none⟩ = some (.slice a2 (log.length + 1) k2) := by go_simp
    have df : ∀ j, (w3.setCell ⟨b, 1, none⟩ (.slice a2 (log.length + 1) k2)).frozen? ⟨b, j, none⟩ = false := fun j => by go_simp
    have hz4 : w3.heap.size = (w3.setCell ⟨b, 1, none⟩ (.slice a2 (log.length + 1) k2)).heap.size := by simp [World.setCell]
    have ho4 : (w3.setCell ⟨b, 1, none⟩ (.slice a2 (log.length + 1) k2)).ownsRow wc.heap.size 9 1 (.slice a2 (log.length + 1) k2) (log.length + 1) (logKeys log ++ [.string key]) :=
      Ho2.out.kept (row := some b) ⟨rfl, rfl, rfl, by simp [World.setCell], fun k _ hk => Below.heap_setCell w3 ⟨b, 1, none⟩ _ k (fun e => hk (by rw [e]))⟩ (.inr fun e => by have := (Ho2.out.lt b e).1; omega)
    obtain ⟨w4, hw4⟩ : ∃ w4, w3.setCell ⟨b, 1, none⟩ (.slice a2 (log.length + 1) k2) = w4 := ⟨_, rfl⟩
    rw [hw4] at Hc4 Hr4 Hrr d2 d1 d0 df hz4 ho4 ⊢
    have Ho4 := Lib.hid ho4
    obtain ⟨r0, r1, r2, r3, rf⟩ := Hr4.out
    have hbw4 : b < w4.heap.size := by omega
    clear c0 c1 c2 cf hw4 Ho2 ho4
    have hrbl : w.heap.size < w4.heap.size := lt_of_cell r0
    have hnrbb : ¬ w.heap.size = b := fun e => hnrb (e ▸ HC.out.sb)
    go_region_law
      (first
        | ((refine step_append_rd _ (by rfl) (Operand.const (Value.slice none 0 0)) (.tmp 131) 35 (by rfl) w4.heap.size 30 i1 _ 4 40 und_recs hj hy0 hy1 hy2 (by rfl) (by decide) (.slice none 0 0) 0 [] (by rfl) (World.ownsRow_nil _ _ _ _) Sr' (.slice A2 log.length rc) log.length (logRecs log) (by rfl) (by first | exact Hrr.out | exact Hrr.out.ext (by repeat' (first | exact Ext.refl _ | assumption | apply Ext.alloc | apply Ext.drewN | apply Ext.drew | (refine Ext.trans ?_ (by assumption)) | (refine ext_setCell ?_ (by first | (simp; done) | (simp; omega)) _)))) (recs_one _) (by unfold maxLen; omega) (by omega) (by simp) ?_; intro v5 w5 ha5; have hx5 := Ext.grown (Ext.refl _) ha5.grown (fun k hk => by simp [Value.ownBlock] at hk); have e0 := (hx5.cell (p := ⟨b, 2, none⟩) (by simp; omega)).trans (show _ = some (Value.slice A2 log.length rc) by go_simp); have e1 := (hx5.cell (p := ⟨w.heap.size, 0, none⟩) (by simp; omega)).trans (show _ = some (Value.int .i64 st) by go_simp); have e2 := (hx5.cell (p := ⟨w.heap.size, 1, none⟩) (by simp; omega)).trans (show _ = some (Value.int .i64 ow) by go_simp); have e3 := (hx5.cell (p := ⟨w.heap.size, 2, none⟩) (by simp; omega)).trans (show _ = some (Value.string nm) by go_simp); have e4 := (hx5.cell (p := ⟨w.heap.size, 3, none⟩) (by simp; omega)).trans (show _ = some (Value.int .i64 dl) by go_simp); have e5 := fun j => (hx5.frozen (p := ⟨b, j, none⟩) (by simp; omega)).trans (show _ = false by go_simp); have hz5 : w4.heap.size ≤ w5.heap.size := Nat.le_trans (by simp) hx5.size; have ho5 : w5.ownsRow w4.heap.size 30 4 v5 log.length (logRecs log) := by simpa using ha5.own))
        | ((refine step_append_rd _ (by rfl) (.tmp 132) (.tmp 134) 35 (by rfl) w4.heap.size 30 i1 _ 4 40 und_recs hj hy0 hy1 hy2 (by rfl) (by decide) v5 log.length (logRecs log) (by rfl) (ho5.alloc _) (fun _ => True) (.slice (some ⟨w5.heap.size, 0, none⟩) 1 1) 1 [.int .i64 st, .int .i64 ow, .string nm, .int .i64 dl] (by rfl) (rd_lit w5 _ _ 4 (by rfl)) rec_one (by unfold maxLen; omega) (by omega) (by simp; omega) ?_; intro v6 w6 ha6; obtain ⟨a6, k6, rfl⟩ := own_shape ha6.own; have hx6 : Ext w4 w6 := Ext.grown (((Ext.refl w4).drew.trans hx5).alloc _) ha6.grown (fun k hk => (ho5.lt k hk).1); have hz6 : w4.heap.size + 1 ≤ w6.heap.size := Nat.le_trans (by simp; omega) ha6.grown.size; have hne6 : ¬ w.heap.size = b := hnrbb; have f0 := (hx6.cell (p := ⟨b, 2, none⟩) hbw4).trans d2; have f1 := (hx6.cell (p := ⟨w.heap.size, 0, none⟩) hrbl).trans r0; have f2 := (hx6.cell (p := ⟨w.heap.size, 1, none⟩) hrbl).trans r1; have f3 := (hx6.cell (p := ⟨w.heap.size, 2, none⟩) hrbl).trans r2; have f4 := (hx6.cell (p := ⟨w.heap.size, 3, none⟩) hrbl).trans r3; have f5 := fun j => (hx6.frozen (p := ⟨b, j, none⟩) hbw4).trans (df j)))
        | ((refine step_append_rd _ (by rfl) (.tmp 132) (.tmp 134) 35 (by rfl) w4.heap.size 30 i1 _ 4 40 und_recs hj hy0 hy1 hy2 (by rfl) (by decide) v5 log.length (logRecs log) (by rfl) ho5 (fun _ => True) (.slice (some ⟨w4.heap.size, 0, none⟩) 1 1) 1 [.int .i64 st, .int .i64 ow, .string nm, .int .i64 dl] (by rfl) (((rd_lit w4 _ _ 4 (by rfl)).drew).ext hx5) rec_one (by unfold maxLen; omega) (by omega) hz5 ?_; intro v6 w6 ha6; obtain ⟨a6, k6, rfl⟩ := own_shape ha6.own; have hx6 : Ext w4 w6 := Ext.grown ((((Ext.refl w4).alloc _).drew.trans hx5)) ha6.grown (fun k hk => (ho5.lt k hk).1); have hz6 : w4.heap.size + 1 ≤ w6.heap.size := Nat.le_trans (Nat.le_trans (by simp) hx5.size) ha6.grown.size; have hne6 : ¬ w.heap.size = b := hnrbb; have f0 := (hx6.cell (p := ⟨b, 2, none⟩) hbw4).trans d2; have f1 := (hx6.cell (p := ⟨w.heap.size, 0, none⟩) hrbl).trans r0; have f2 := (hx6.cell (p := ⟨w.heap.size, 1, none⟩) hrbl).trans r1; have f3 := (hx6.cell (p := ⟨w.heap.size, 2, none⟩) hrbl).trans r2; have f4 := (hx6.cell (p := ⟨w.heap.size, 3, none⟩) hrbl).trans r3; have f5 := fun j => (hx6.frozen (p := ⟨b, j, none⟩) hbw4).trans (df j))))
    all_goals
      have ho6 : w6.ownsRow w4.heap.size 30 4 (.slice a6 (log.length + 1) k6) (log.length + 1) (logRecs log ++ [.int .i64 st, .int .i64 ow, .string nm, .int .i64 dl]) := ha6.own
      have Ho6 := Lib.hid ho6
      have Hx6 := Lib.hid hx6
      clear ho6 ha6 hx6
      go_wp2_with fail
      go_ret
      have hCf := rput_fin HC.out Hc4.out d0 d1 d2 df Ho4.out Hx6.out Ho6.out
      refine ⟨0, n', sl', _, _, rfl, Hspec.out, ⟨t', _, _, St', _, _, hCf⟩, fun k hk => ?_, ?_⟩
      · rcases hk with hk | hk | hk
        · exact hgr k hk
        · have := (Ho4.out.lt k hk).1; have := Hcw.out.size; exact .inr (by omega)
        · have := (Ho6.out.lt k hk).1; have := Hcw.out.size; exact .inr (by omega)
      · have hSb : b < w.heap.size → S b := fun h => by
          rcases hgr b HC.out.sb with h1 | h1
          · exact h1
          · omega
        refine (((Hcw.out.then_ Hc4.out (fun k hk e => by subst e; exact hSb hk)).trans (Hx6.out.chg S))).then_ ((Chg.refl (· = b) w6).setCell (p := ⟨b, 2, none⟩) (.inl rfl) _) (fun k hk e => by subst e; exact hSb hk)
end Go.Proofs.Ytkhfjedeccjnbaa
