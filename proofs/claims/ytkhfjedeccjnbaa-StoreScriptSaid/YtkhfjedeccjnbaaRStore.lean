/-
  The reference's store in memory (26.1), and what its Get returns (26.2).
  Conditions: the store is whole in memory; lengths within a process's reach.
-/
import Derived.Test.YtkhfjedeccjnbaaTRem
import Derived.Test.YtkhfjedeccjnbaaAwake26
namespace Go.Proofs.Ytkhfjedeccjnbaa
open Go.RowKit Go.Sort
set_option maxHeartbeats 2000000

/-- What was put last for a key. -/
def logGet (log : List (ByteArray × Rc)) (key : ByteArray) : Rc := log.foldl (fun r p => if p.1 = key then p.2 else r) rc0
theorem logGet_snoc (log : List (ByteArray × Rc)) (p : ByteArray × Rc) (key : ByteArray) : logGet (log ++ [p]) key = if p.1 = key then p.2 else logGet log key := by simp [logGet]
theorem logGet_next (log : List (ByteArray × Rc)) (key : ByteArray) {i : Nat} (hi : i < log.length) : logGet (log.take (i + 1)) key = if (log.getD i default).1 = key then (log.getD i default).2 else logGet (log.take i) key := by
  rw [List.take_succ_eq_append_getElem hi, logGet_snoc]
  simp [List.getD_eq_getElem?_getD, hi]
def logKeys (log : List (ByteArray × Rc)) : List Value := log.map fun p => .string p.1
def logRecs (log : List (ByteArray × Rc)) : List Value := flatR (log.map (·.2))
theorem logKeys_at {log : List (ByteArray × Rc)} {i : Nat} (hi : i < log.length) : (logKeys log)[i]? = some (.string (log.getD i default).1) := by simp [logKeys, List.getD_eq_getElem?_getD, hi]
theorem logRecs_at {log : List (ByteArray × Rc)} {i : Nat} (hi : i < log.length) (j : Nat) (hj : j < 4) : (logRecs log)[i * 4 + j]? = (log.getD i default).2.cells[j]? := by
  unfold logRecs
  rw [flatR_at _ (by simpa using hi) j hj]
  simp [List.getD_eq_getElem?_getD, hi]
/-- Block b is a store of the reference with n slots, which hold sl; log is what was put, oldest first; S are its blocks. -/
structure RStC (w : World) (S : Nat → Prop) (b n : Nat) (sl : Nat → Option ByteArray) (log : List (ByteArray × Rc)) (L : Nat) (t : Nat) (kv rv : Value) (St Sk Sr : Nat → Prop) : Prop where
  c0 : w.cell? ⟨b, 0, none⟩ = some (.pointer (some ⟨t, 0, none⟩))
  c1 : w.cell? ⟨b, 1, none⟩ = some kv
  c2 : w.cell? ⟨b, 2, none⟩ = some rv
  fr : ∀ j, w.frozen? ⟨b, j, none⟩ = false
  sb : S b
  tab : TabIs w St t n sl L
  keys : Rd w Sk 1 kv log.length (logKeys log)
  recs : Rd w Sr 4 rv log.length (logRecs log)
  st : ∀ k, St k → S k ∧ k ≠ b ∧ ¬ Sk k ∧ ¬ Sr k
  sk : ∀ k, Sk k → S k ∧ k ≠ b
  sr : ∀ k, Sr k → S k ∧ k ≠ b
  low : ∀ k, S k → k < w.heap.size
def RStIs (w : World) (S : Nat → Prop) (b n : Nat) (sl : Nat → Option ByteArray) (log : List (ByteArray × Rc)) (L : Nat) : Prop := ∃ t kv rv St Sk Sr, RStC w S b n sl log L t kv rv St Sk Sr
theorem RStC.chg {w w' : World} {S T : Nat → Prop} {b n : Nat} {sl : Nat → Option ByteArray} {log : List (ByteArray × Rc)} {L t : Nat} {kv rv : Value} {St Sk Sr : Nat → Prop} (h : RStC w S b n sl log L t kv rv St Sk Sr) (c : Chg T w w') (hd : ∀ k, S k → ¬ T k) : RStC w' S b n sl log L t kv rv St Sk Sr := by
  have hb := hd b h.sb
  have hbl := h.low b h.sb
  exact ⟨(c.cell (p := ⟨b, 0, none⟩) hbl hb).trans h.c0, (c.cell (p := ⟨b, 1, none⟩) hbl hb).trans h.c1, (c.cell (p := ⟨b, 2, none⟩) hbl hb).trans h.c2, fun j => (c.frozen (p := ⟨b, j, none⟩) hbl hb).trans (h.fr j), h.sb,
    h.tab.chg c fun k hk => hd k (h.st k hk).1, h.keys.chg c fun k hk => hd k (h.sk k hk).1, h.recs.chg c fun k hk => hd k (h.sr k hk).1, h.st, h.sk, h.sr, fun k hk => Nat.lt_of_lt_of_le (h.low k hk) c.size⟩
theorem RStC.ext {w w' : World} {S : Nat → Prop} {b n : Nat} {sl : Nat → Option ByteArray} {log : List (ByteArray × Rc)} {L t : Nat} {kv rv : Value} {St Sk Sr : Nat → Prop} (h : RStC w S b n sl log L t kv rv St Sk Sr) (x : Ext w w') : RStC w' S b n sl log L t kv rv St Sk Sr := h.chg (x.chg fun _ => False) fun _ _ h => h
theorem RStIs.low {w : World} {S : Nat → Prop} {b n : Nat} {sl : Nat → Option ByteArray} {log : List (ByteArray × Rc)} {L : Nat} (h : RStIs w S b n sl log L) : ∀ k, S k → k < w.heap.size := by
  obtain ⟨_, _, _, _, _, _, h⟩ := h
  exact h.low
theorem RStIs.sb {w : World} {S : Nat → Prop} {b n : Nat} {sl : Nat → Option ByteArray} {log : List (ByteArray × Rc)} {L : Nat} (h : RStIs w S b n sl log L) : S b := by
  obtain ⟨_, _, _, _, _, _, h⟩ := h
  exact h.sb
theorem RStIs.chg {w w' : World} {S T : Nat → Prop} {b n : Nat} {sl : Nat → Option ByteArray} {log : List (ByteArray × Rc)} {L : Nat} (h : RStIs w S b n sl log L) (c : Chg T w w') (hd : ∀ k, S k → ¬ T k) : RStIs w' S b n sl log L := by
  obtain ⟨t, kv, rv, St, Sk, Sr, h⟩ := h
  exact ⟨t, kv, rv, St, Sk, Sr, h.chg c hd⟩
theorem RStIs.ext {w w' : World} {S : Nat → Prop} {b n : Nat} {sl : Nat → Option ByteArray} {log : List (ByteArray × Rc)} {L : Nat} (h : RStIs w S b n sl log L) (x : Ext w w') : RStIs w' S b n sl log L := h.chg (x.chg fun _ => False) fun _ _ h => h

theorem RecAt.far {w : World} {g : Nat} {st ow dl : Int} {nm : ByteArray} (h : RecAt w g st ow dl nm) {p : Addr} (hp : g ≠ p.block) (u : Value) : RecAt (w.setCell p u) g st ow dl nm :=
  h.chg ((Chg.refl (· = p.block) w).setCell (.inl rfl) u) hp
theorem RecAt.set {w : World} {g : Nat} {st ow dl : Int} {nm : ByteArray} (h : RecAt w g st ow dl nm) (st' ow' dl' : Int) (nm' : ByteArray) :
    RecAt ((((w.setCell ⟨g, 0, none⟩ (.int .i64 st')).setCell ⟨g, 1, none⟩ (.int .i64 ow')).setCell ⟨g, 2, none⟩ (.string nm')).setCell ⟨g, 3, none⟩ (.int .i64 dl')) g st' ow' dl' nm' := by
  obtain ⟨c0, c1, c2, c3, c4⟩ := h
  exact ⟨by go_simp, by go_simp, by go_simp, by go_simp, fun i => by go_simp⟩
set_option maxRecDepth 10000 in
theorem rget_any (S : Nat → Prop) (b n : Nat) (sl : Nat → Option ByteArray) (log : List (ByteArray × Rc)) (L : Nat) (key : ByteArray) (w : World) (hlen : log.length ≤ 1000000) (h : RStIs w S b n sl log L) :
    Calls Try.prog 71 #[.pointer (some ⟨b, 0, none⟩), .string key] w fun e w' => e = .returned (rcV (logGet log key)) ∧ Ext w w' := by
  have hx0 : Ext w ((w.alloc (.cells #[.int .i64 0, .int .i64 0, .string ⟨#[]⟩, .int .i64 0] 30)).alloc (.cells #[.int .i64 0, .int .i64 0, .string ⟨#[]⟩, .int .i64 0] 30)) := ((Ext.refl w).alloc _).alloc _
  have hr0 : RecAt ((w.alloc (.cells #[.int .i64 0, .int .i64 0, .string ⟨#[]⟩, .int .i64 0] 30)).alloc (.cells #[.int .i64 0, .int .i64 0, .string ⟨#[]⟩, .int .i64 0] 30)) w.heap.size 0 0 0 ⟨#[]⟩ := by
    refine ⟨?_, ?_, ?_, ?_, fun i => ?_⟩ <;> go_simp
  have hr1 : RecAt ((w.alloc (.cells #[.int .i64 0, .int .i64 0, .string ⟨#[]⟩, .int .i64 0] 30)).alloc (.cells #[.int .i64 0, .int .i64 0, .string ⟨#[]⟩, .int .i64 0] 30)) (w.heap.size + 1) 0 0 0 ⟨#[]⟩ := by
    refine ⟨?_, ?_, ?_, ?_, fun i => ?_⟩ <;> go_simp
  have Hx0 := Lib.hid hx0
  have Hr0 := Lib.hid hr0
  have Hr1 := Lib.hid hr1
  obtain ⟨t, kv, rv, St, Sk, Sr, c0, c1, c2, cf, hSb, _, h7, h8, _, _, _, h12⟩ := h
  have hbl := h12 b hSb
  have H7 := Lib.hid h7
  have H8 := Lib.hid h8
  obtain ⟨_, A, c, rfl, hk1, hk2, _⟩ := h7
  obtain ⟨_, A2, k2, rfl, hk3, hk4, _⟩ := h8
  unfold maxLen at hk2 hk4
  have d1 := (hx0.cell (p := ⟨b, 1, none⟩) hbl).trans c1
  clear hx0 hr0 hr1
  go_enter Try.func71, Try.ntmps71
  go_wp2_with fail
  go_loopw [14] (fun o wr => ∃ i : Nat, i ≤ log.length ∧ o = .int .i64 (i : Int) ∧ RecAt wr w.heap.size 0 0 0 ⟨#[]⟩ ∧ RecAt wr (w.heap.size + 1) (logGet (log.take i) key).st (logGet (log.take i) key).ow (logGet (log.take i) key).dl (logGet (log.take i) key).nm ∧ Ext w wr) (fun o _ => log.length - (intOf o).toNat)
  case atStart => exact ⟨0, by omega, rfl, Hr0.out, Hr1.out, Hx0.out⟩
  case round =>
    clear d1 Hx0 Hr0 Hr1
    obtain ⟨i, hi, rfl, hr0, hr1, hx⟩ := hrel
    obtain ⟨rc, hrc⟩ : ∃ rc, logGet (log.take i) key = rc := ⟨_, rfl⟩
    rw [hrc] at hr1
    have Hrc := Lib.hid hrc
    have Hr0 := Lib.hid hr0
    have Hr1 := Lib.hid hr1
    have Hx := Lib.hid hx
    have d2 := (hx.cell (p := ⟨b, 2, none⟩) hbl).trans c2
    have h7 := H7.out.ext hx
    have h8 := H8.out.ext hx
    have hsz := hx.size
    have hz2 := lt_of_cell hr1.1
    simp only at hz2
    obtain ⟨r0, r1, r2, r3, rf⟩ := hr0
    obtain ⟨q0, q1, q2, q3, qf⟩ := hr1
    clear hrc hx
    by_cases hin : i < log.length
    · have hd : decide ((i : Int) < (log.length : Int)) = true := by simpa using hin
      have hnext := logGet_next log key hin
      obtain ⟨g, o, cc, e1, _, _, _, _, hrd⟩ := h7.at_ hin
      obtain ⟨g2, o2, cc2, e2, _, _, _, _, hrd2⟩ := h8.at_ hin
      simp only [Value.slice.injEq] at e1 e2
      obtain ⟨rfl, _, rfl⟩ := e1
      obtain ⟨rfl, _, rfl⟩ := e2
      have i0 : (0 : Int) ≤ (i : Int) := by omega
      have i1 : (i : Int) < (log.length : Int) := by omega
      have k1 := hrd i _ (logKeys_at hin)
      obtain ⟨⟨k, r⟩, hkr⟩ : ∃ p, log.getD i default = p := ⟨_, rfl⟩
      have m0 := hrd2 (i * 4 + 0) _ (by rw [logRecs_at hin 0 (by omega)]; rfl)
      have m1 := hrd2 (i * 4 + 1) _ (by rw [logRecs_at hin 1 (by omega)]; rfl)
      have m2 := hrd2 (i * 4 + 2) _ (by rw [logRecs_at hin 2 (by omega)]; rfl)
      have m3 := hrd2 (i * 4 + 3) _ (by rw [logRecs_at hin 3 (by omega)]; rfl)
      rw [hkr] at k1 m0 m1 m2 m3 hnext
      simp only [Nat.add_zero] at k1 m0 m1 m2 m3 hnext
      simp only [← Nat.add_assoc] at m1 m2 m3
      have Hnext := Lib.hid hnext
      clear hkr hnext hrd hrd2 h7 h8
      by_cases hk : k = key
      · have hn2 : logGet (log.take (i + 1)) key = r := by rw [Hnext.out, if_pos hk]
        have Hn2 := Lib.hid hn2
        clear hn2
        subst hk
        go_wp2_with fail
        go_roundw
        case rel =>
          refine ⟨i + 1, by omega, by go_num, ?_, ?_, ?_⟩
          · exact (((Hr0.out.far (p := ⟨w.heap.size + 1, 0, none⟩) (Nat.ne_of_lt (Nat.lt_succ_self _)) _).far (p := ⟨w.heap.size + 1, 1, none⟩) (Nat.ne_of_lt (Nat.lt_succ_self _)) _).far (p := ⟨w.heap.size + 1, 2, none⟩) (Nat.ne_of_lt (Nat.lt_succ_self _)) _).far (p := ⟨w.heap.size + 1, 3, none⟩) (Nat.ne_of_lt (Nat.lt_succ_self _)) _
          · rw [Hn2.out]; exact Hr1.out.set _ _ _ _
          · exact ext_setCell (ext_setCell (ext_setCell (ext_setCell Hx.out (Nat.le_succ _) _) (Nat.le_succ _) _) (Nat.le_succ _) _) (Nat.le_succ _) _
        case measure => simp [intOf]; omega
      · have hn2 : logGet (log.take (i + 1)) key = rc := by rw [Hnext.out, if_neg hk, Hrc.out]
        have Hn2 := Lib.hid hn2
        have hk' := bytes_ne hk
        clear hn2 hk
        go_wp2_with fail
        go_roundw
        case rel => exact ⟨i + 1, by omega, by go_num, Hr0.out, by rw [Hn2.out]; exact Hr1.out, Hx.out⟩
        case measure => simp [intOf]; omega
    · have hd : decide ((i : Int) < (log.length : Int)) = false := by simp; omega
      have hii : i = log.length := by omega
      have Hii := Lib.hid (show logGet log key = rc by rw [← Hrc.out, hii, List.take_length])
      clear hii d2 h7 h8
      go_wp2_with fail
      exact bodyPost_ret (v := rcV rc) (by simp [results, Try.results71, go_sem, rcV, *]) rfl ⟨by rw [Hii.out], by repeat (first | exact Hx.out | (refine ext_setCell ?_ (Nat.le_refl _) _))⟩
end Go.Proofs.Ytkhfjedeccjnbaa
