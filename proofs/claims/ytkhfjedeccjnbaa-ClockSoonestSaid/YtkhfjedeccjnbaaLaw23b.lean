/-
  The walk of the law ClockSoonest: it returns true and changes nothing that was there.
  Conditions: none.
-/
import Derived.Test.YtkhfjedeccjnbaaRecs
namespace Go.Proofs.Ytkhfjedeccjnbaa
open Go.RowKit Go.Sort
set_option maxHeartbeats 1000000

/-- What Soonest's answer p says of the records. -/
structure SoonFacts (t : Int) (rs : List Rc) (p : Int × Bool) : Prop where
  least : ∀ r ∈ rs, r.st = 1 → liveB r.st r.dl t = true → p.2 = true ∧ p.1 ≤ r.dl
  found : p.2 = true → ∃ r ∈ rs, r.st = 1 ∧ liveB r.st r.dl t = true ∧ r.dl = p.1
  none : p.2 = false → p.1 = 0
theorem SoonFacts.step {t : Int} {rs : List Rc} {p : Int × Bool} (h : SoonFacts t rs p) (r : Rc) : SoonFacts t (rs ++ [r]) (soonStep t p r) := by
  obtain ⟨h1, h2, h3⟩ := h
  unfold soonStep
  split
  · rename_i hc
    obtain ⟨c1, c2, c3⟩ := hc
    refine ⟨fun q hq q1 q2 => ⟨rfl, ?_⟩, fun _ => ⟨r, by simp, c1, c2, rfl⟩, fun e => by simp at e⟩
    rcases List.mem_append.1 hq with hq | hq
    · obtain ⟨k1, k2⟩ := h1 q hq q1 q2
      rcases c3 with c3 | c3
      · simp [c3] at k1
      · simp only; omega
    · simp at hq; subst hq; exact Int.le_refl _
  · rename_i hc
    refine ⟨fun q hq q1 q2 => ?_, fun e => ?_, h3⟩
    · rcases List.mem_append.1 hq with hq | hq
      · exact h1 q hq q1 q2
      · simp at hq; subst hq
        cases hp : p.2
        · exact absurd ⟨q1, q2, Or.inl hp⟩ hc
        · exact ⟨rfl, Int.not_lt.1 fun hlt => hc ⟨q1, q2, Or.inr hlt⟩⟩
    · obtain ⟨q, hq, hr⟩ := h2 e
      exact ⟨q, List.mem_append_left _ hq, hr⟩
theorem soon_facts (t : Int) (rs : List Rc) : SoonFacts t rs (soon t rs) := by
  have : ∀ k, k ≤ rs.length → SoonFacts t (rs.take k) (soon t (rs.take k)) := by
    intro k
    induction k with
    | zero => intro _; exact ⟨by simp, by simp [soon], by simp [soon]⟩
    | succ k ih =>
      intro hk
      rw [soon_next t rs (by omega), take_next rs (by omega)]
      exact (ih (by omega)).step _
  have h := this rs.length (Nat.le_refl _)
  rwa [List.take_of_length_le (Nat.le_refl _)] at h
/-- Some record that is live at t is not so at d. -/
def goneB (t d : Int) (rs : List Rc) : Bool := rs.any fun r => r.st == 1 && liveB r.st r.dl t && !liveB r.st r.dl d
theorem gone_next (t d : Int) (rs : List Rc) {k : Nat} (h : k < rs.length) : goneB t d (rs.take (k + 1)) = (goneB t d (rs.take k) || ((rs.getD k default).st == 1 && liveB (rs.getD k default).st (rs.getD k default).dl t && !liveB (rs.getD k default).st (rs.getD k default).dl d)) := by
  rw [take_next rs h]; simp [goneB]
theorem gone_ok {t d : Int} {rs : List Rc} {ok : Bool} (h : SoonFacts t rs (d, ok)) : goneB t d rs = ok := by
  cases ok
  · rw [goneB, List.any_eq_false]
    intro r hr hc
    simp only [Bool.and_eq_true, beq_iff_eq] at hc
    obtain ⟨⟨h1, h2⟩, _⟩ := hc
    simpa using (h.least r hr h1 h2).1
  · obtain ⟨r, hr, h1, h2, h3⟩ := h.found rfl
    simp only at h3
    rw [goneB, List.any_eq_true]
    refine ⟨r, hr, ?_⟩
    have : liveB r.st r.dl d = false := by rw [h1, h3]; simp [liveB]
    simp [h1] at h2 this ⊢
    simp [h2, this]
theorem soon_late {t d : Int} {rs : List Rc} (h : SoonFacts t rs (d, true)) : t < d := by
  obtain ⟨r, hr, h1, h2, h3⟩ := h.found rfl
  simp only at h3
  rw [h1, h3] at h2
  simpa [liveB] using h2

namespace clockSoonest
theorem walk (a : Option Addr) (len cap : Nat) (zs : List Int) (a1 : Int) (w : World) (h : IsRow .i64 w a len cap zs) (_ : I64 a1) :
    Calls Try.prog 6 #[.slice a len cap, .int .i64 a1] w fun e w' => e = .returned (.bool true) ∧ Below w.heap.size w w' := by
  obtain ⟨t, ht⟩ : ∃ t, pickI a1 45 = t := ⟨_, rfl⟩
  go_enter Try.func6, Try.ntmps6
  go_wp2_with fail
  refine (records_any _ _ _ _ _ h).mono ?_
  rintro e w1 ⟨v, rs, h6, hok, rfl, hrec, hx1⟩
  have hrec' := hrec
  obtain ⟨a', cap', rfl, hm, _⟩ := hrec'
  obtain ⟨n, hn⟩ : ∃ n, rs.length = n := ⟨_, rfl⟩
  have Hn := Lib.hid hn
  have Hrs := Lib.hid (soon_facts t rs)
  obtain ⟨⟨d, ok⟩, hs⟩ : ∃ p, soon t rs = p := ⟨_, rfl⟩
  rw [hs] at Hrs
  rw [hn] at hm h6 hrec ⊢
  have Hok := Lib.hid hok
  clear hn hok h
  unfold maxLen at hm
  go_wp2_with (first | (go_at_call 29; refine (pick_any _ _ (by omega) (by omega) _).mono ?_; rintro e w' ⟨rfl, rfl⟩) | (go_at_call 36; refine (soonest_any _ rs _ _ hrec).mono ?_; rintro e w2 ⟨rfl, hy⟩; have hrec2 := hrec.ext hy; have hx2 := hx1.trans hy; clear hrec hy))
  obtain ⟨a'', cap'', hv, _, hr⟩ := hrec2
  simp only [Value.slice.injEq] at hv
  obtain ⟨rfl, hvn, rfl⟩ := hv; clear hvn
  rw [Hn.out] at hr
  go_loopw [9, 24] (fun g i wr => ∃ k : Nat, k ≤ n ∧ i = .int .i64 (k : Int) ∧ g = .bool (goneB t d (rs.take k)) ∧ Ext w2 wr) (fun _ i _ => n - (intOf i).toNat)
  case atStart => exact ⟨0, by omega, rfl, rfl, Ext.refl _⟩
  case round =>
    obtain ⟨k, hk, rfl, rfl, hx⟩ := hrel
    by_cases hkn : k < n
    · have hd : decide ((k : Int) < (n : Int)) = true := by simpa using hkn
      obtain ⟨g, rfl, hg, c0, c1, c2, c3⟩ := hr k hkn
      have hc0 := (hx.cell (p := ⟨g, k * 4, none⟩) hg).trans c0
      have hc1 := (hx.cell (p := ⟨g, k * 4 + 1, none⟩) hg).trans c1
      have hc2 := (hx.cell (p := ⟨g, k * 4 + 2, none⟩) hg).trans c2
      have hc3 := (hx.cell (p := ⟨g, k * 4 + 3, none⟩) hg).trans c3
      have H := Lib.hid (gone_next t d rs (k := k) (by rw [Hn.out]; exact hkn))
      obtain ⟨gn, hgn⟩ : ∃ p, goneB t d (rs.take k) = p := ⟨_, rfl⟩
      have hmem : rs.getD k default ∈ rs := by
        rw [List.getD_eq_getElem?_getD, List.getElem?_eq_getElem (by rw [Hn.out]; exact hkn)]; exact List.getElem_mem _
      have Hl := Lib.hid (Hrs.out.least _ hmem)
      clear hmem
      obtain ⟨⟨st, ow, nm, dl⟩, hre⟩ : ∃ r, rs.getD k default = r := ⟨_, rfl⟩
      rw [hgn] at H ⊢
      rw [hre] at H Hl hc0 hc1 hc2 hc3
      simp only at hc0 hc1 hc2 hc3 ⊢
      clear c0 c1 c2 c3 hre hgn hr
      cases hl : liveB st dl t
      · have he := Lib.hid (show (gn || (st == 1 && liveB st dl t && !liveB st dl d)) = gn by simp [hl])
        go_wp2_with (go_at_call 37; refine (rlive_any _ _ _ _ _ _).mono ?_; rintro e1 w3 ⟨rfl, hy⟩; (first | (have hx := (hx.alloc _).trans hy) | (have hx := hx.trans hy)); have hc := fun i => (hy.cell (p := ⟨wr.heap.size, i, none⟩) (by first | omega | (simp; done) | (simp; omega))); have hz : wr.heap.size < w3.heap.size := (by have hz1 := hy.size; (try simp at hz1); omega))
        go_roundw
        case rel => first | exact ⟨k + 1, by omega, by go_num, by rw [H.out, he.out], by assumption⟩ | ((repeat apply Exists.intro); exact ⟨⟨k + 1, by omega, by go_num, by rw [H.out, he.out], by assumption⟩, rfl⟩)
        case measure => simp [intOf]; omega
      · by_cases h1 : st = 1
        · subst h1
          obtain ⟨ho, hle⟩ := Hl.out rfl hl
          simp only at ho hle
          subst ho
          have hnl : decide (dl < d) = false := by simpa using hle
          cases gn
          · cases hl2 : liveB 1 dl d
            · have he := Lib.hid (show (false || ((1 : Int) == 1 && liveB 1 dl t && !liveB 1 dl d)) = true by simp [hl, hl2])
              go_wp2_with (go_at_call 37; refine (rlive_any _ _ _ _ _ _).mono ?_; rintro e1 w3 ⟨rfl, hy⟩; (first | (have hx := (hx.alloc _).trans hy) | (have hx := hx.trans hy)); have hc := fun i => (hy.cell (p := ⟨wr.heap.size, i, none⟩) (by first | omega | (simp; done) | (simp; omega))); have hz : wr.heap.size < w3.heap.size := (by have hz1 := hy.size; (try simp at hz1); omega))
              go_roundw
              case rel => first | exact ⟨k + 1, by omega, by go_num, by rw [H.out, he.out], by assumption⟩ | ((repeat apply Exists.intro); exact ⟨⟨k + 1, by omega, by go_num, by rw [H.out, he.out], by assumption⟩, rfl⟩)
              case measure => simp [intOf]; omega
            · have he := Lib.hid (show (false || ((1 : Int) == 1 && liveB 1 dl t && !liveB 1 dl d)) = false by simp [hl2])
              go_wp2_with (go_at_call 37; refine (rlive_any _ _ _ _ _ _).mono ?_; rintro e1 w3 ⟨rfl, hy⟩; (first | (have hx := (hx.alloc _).trans hy) | (have hx := hx.trans hy)); have hc := fun i => (hy.cell (p := ⟨wr.heap.size, i, none⟩) (by first | omega | (simp; done) | (simp; omega))); have hz : wr.heap.size < w3.heap.size := (by have hz1 := hy.size; (try simp at hz1); omega))
              go_roundw
              case rel => first | exact ⟨k + 1, by omega, by go_num, by rw [H.out, he.out], by assumption⟩ | ((repeat apply Exists.intro); exact ⟨⟨k + 1, by omega, by go_num, by rw [H.out, he.out], by assumption⟩, rfl⟩)
              case measure => simp [intOf]; omega
          · have he := Lib.hid (show (true || ((1 : Int) == 1 && liveB 1 dl t && !liveB 1 dl d)) = true by simp)
            go_wp2_with (go_at_call 37; refine (rlive_any _ _ _ _ _ _).mono ?_; rintro e1 w3 ⟨rfl, hy⟩; (first | (have hx := (hx.alloc _).trans hy) | (have hx := hx.trans hy)); have hc := fun i => (hy.cell (p := ⟨wr.heap.size, i, none⟩) (by first | omega | (simp; done) | (simp; omega))); have hz : wr.heap.size < w3.heap.size := (by have hz1 := hy.size; (try simp at hz1); omega))
            go_roundw
            case rel => first | exact ⟨k + 1, by omega, by go_num, by rw [H.out, he.out], by assumption⟩ | ((repeat apply Exists.intro); exact ⟨⟨k + 1, by omega, by go_num, by rw [H.out, he.out], by assumption⟩, rfl⟩)
            case measure => simp [intOf]; omega
        · have h1' : (st != 1) = true := by simpa using h1
          have he := Lib.hid (show (gn || (st == 1 && liveB st dl t && !liveB st dl d)) = gn by simp [h1])
          go_wp2_with (go_at_call 37; refine (rlive_any _ _ _ _ _ _).mono ?_; rintro e1 w3 ⟨rfl, hy⟩; (first | (have hx := (hx.alloc _).trans hy) | (have hx := hx.trans hy)); have hc := fun i => (hy.cell (p := ⟨wr.heap.size, i, none⟩) (by first | omega | (simp; done) | (simp; omega))); have hz : wr.heap.size < w3.heap.size := (by have hz1 := hy.size; (try simp at hz1); omega))
          go_roundw
          case rel => first | exact ⟨k + 1, by omega, by go_num, by rw [H.out, he.out], by assumption⟩ | ((repeat apply Exists.intro); exact ⟨⟨k + 1, by omega, by go_num, by rw [H.out, he.out], by assumption⟩, rfl⟩)
          case measure => simp [intOf]; omega
    · have hd : decide ((k : Int) < (n : Int)) = false := by simp; omega
      have hkn' : k = n := by omega
      subst hkn'
      rw [List.take_of_length_le (by rw [Hn.out]; exact Nat.le_refl _), gone_ok Hrs.out]
      cases ok
      · have hd0 : d = 0 := Hrs.out.none rfl
        subst hd0
        go_wp2_with (first | (go_at_call 31; refine (awake23 _).mono ?_; rintro e w' ⟨rfl, rfl⟩))
        go_ret
        exact ⟨rfl, Ext.below (hx2.trans hx)⟩
      · have hd0 := soon_late Hrs.out
        go_wp2_with (first | (go_at_call 31; refine (awake23 _).mono ?_; rintro e w' ⟨rfl, rfl⟩))
        go_ret
        exact ⟨rfl, Ext.below (hx2.trans hx)⟩
end clockSoonest
end Go.Proofs.Ytkhfjedeccjnbaa
